/- Parts of the proof. No condition. -/
import Derived.Test.YtfnopgdcaanaiaaGreatDoorK20
import Derived.Test.YtfnopgdcaanaiaaGreatDoorK21
set_option linter.all false
set_option maxRecDepth 100000
set_option maxHeartbeats 8000000
namespace Go.Proofs.YtfnopgdcaanaiaaGreatDoor
open Go.Proofs.Tryz
section
open Go.RowKit
theorem aHQ{h:Np.Hist} : Np.VHist h↔(((Np.VHosts h.hosts/\Np.VRoot h.anchor h.hints)/\Np.sW h)/\∀ c∈h.copies,Np.CopyOk h c)/\h.copies.Pairwise λc d=>¬ Np.jH c d:=
 ⟨λv=>⟨⟨⟨⟨v.hosts,v.root⟩,v.stop,v.drift⟩,v.each⟩,v.apart⟩,λv=>⟨v.1.1.2.1,v.1.1.2.2,v.1.1.1.1,v.1.1.1.2,v.1.2,v.2⟩⟩
theorem aqZ(hv:Value)(hs:List Np.Host)(cv:Value)(l:List Np.Copy)(s:ByteArray)(ap:s.size<=140737488355328)(ty life:Int)(dv:Value)(d:List Np.Datum)(cE:Value)(hints:List Int)(drift stop:Int)(hl:l.length<=500)(hz:∀ p∈l,p.zone.sets.length<=20000)(w:World)
 (hh:SlR gz 3 w w.heap.size hv hs) (hd:SlR jR 5 w w.heap.size cv l) (hdd:SlR bF 3 w w.heap.size dv d) (jt:SlR gB 1 w w.heap.size cE hints) :
 Calls prog 44 #[.agg #[hv,cv,.string s,.int .i64 ty,.int .i64 life,dv,cE,.int .i64 drift,.int .i64 stop]] w λe w'=>e = .returned (.bool (Np.yes (Np.VHist ⟨hs,l,⟨s.data.toList,ty,life,d⟩,hints,drift,stop⟩)))/\Below w.heap.size w w':=by
 obtain⟨r,hr⟩:∃ r,Np.yes (Np.VHist ⟨hs,l,⟨s.data.toList,ty,life,d⟩,hints,drift,stop⟩)=r:=⟨_,rfl⟩;obtain⟨ic,rA⟩:∃ h:Np.Hist,(⟨hs,l,⟨s.data.toList,ty,life,d⟩,hints,drift,stop⟩:Np.Hist)=h:=⟨_,rfl⟩;rw[hr];have HR:Hid (Np.yes ((((Np.VHosts hs/\Np.VRoot ⟨s.data.toList,ty,life,d⟩ hints)/\Np.sW ic)/\∀ c∈l,Np.CopyOk ic c)/\l.Pairwise λc d=>¬ Np.jH c d)=r):=jq (by rw[<-hr,<-rA];exact (Np.sB (aHQ (h:=⟨hs,l,⟨s.data.toList,ty,life,d⟩,hints,drift,stop⟩))).symm);have jd:Hid (Np.sW ic↔(1<=stop/\stop<=10000000)/\(0<=drift/\drift<=1000)):=jq (by rw[<-rA];exact Iff.rfl);have iL:Hid (∀ c,Np.CopyOk ic c↔(0<=c.host/\c.host<hs.length)/\(0<=c.frm/\c.frm<c.til/\c.til<=stop)/\Np.VZone c.zone):=jq (λc=>by rw[<-rA];exact⟨λh=>⟨h.host,h.times,h.zone⟩,λh=>⟨h.1,h.2.1,h.2.2⟩⟩);have HH:=jq hh;have HD:=jq hd;have pz:=jq hdd;have pB:=jq jt;have HZ:=jq hz;obtain⟨A1,c1,rfl,_,_⟩:=al hh;obtain⟨A2,c2,rfl,_,_⟩:=al hd;obtain⟨A3,c3,rfl,_,_⟩:=al hdd;obtain⟨A4,c4,rfl,_,_⟩:=al jt;clear hr rA hd hh hdd jt hz;obtain⟨n1,bp⟩:∃ n,hs.length=n:=⟨_,rfl⟩;obtain⟨n2,bJ⟩:∃ n,l.length=n:=⟨_,rfl⟩;obtain⟨n3,di⟩:∃ n,d.length=n:=⟨_,rfl⟩;obtain⟨n4,dO⟩:∃ n,hints.length=n:=⟨_,rfl⟩;rw[bp] at HH iL |-;rw[bJ] at HD hl |-;rw[di] at pz |-;rw[dO] at pB |-;have HN:=jq (And.intro bp (And.intro bJ (And.intro di dO)));clear bp bJ di dO;obtain⟨W1,an⟩:∃ W1,w.alloc (.cells #[.slice A1 n1 c1,.slice A2 n2 c2,.string s,.int .i64 ty,.int .i64 life,.slice A3 n3 c3,.slice A4 n4 c4,.int .i64 drift,.int .i64 stop] 29)=W1:=⟨_,rfl⟩;have aL:Below w.heap.size w W1:=by rw[<-an];exact (vQ _ _).alloc (bQ _) _
 have kP:W1.heap.size=w.heap.size+1:=by rw[<-an];simp
 obtain⟨X,hX⟩:∃ X,w.heap.size=X:=⟨_,rfl⟩;have kA:=jq hX;have k0:W1.cell? ⟨X,0,none⟩=some (.slice A1 n1 c1):=by rw[<-an,<-hX];simp[go_sem]
 have k1:W1.cell? ⟨X,1,none⟩=some (.slice A2 n2 c2):=by rw[<-an,<-hX];simp[go_sem]
 have k2:W1.cell? ⟨X,2,none⟩=some (.string s):=by rw[<-an,<-hX];simp[go_sem]
 have k3:W1.cell? ⟨X,3,none⟩=some (.int .i64 ty):=by rw[<-an,<-hX];simp[go_sem]
 have k4:W1.cell? ⟨X,4,none⟩=some (.int .i64 life):=by rw[<-an,<-hX];simp[go_sem]
 have k5:W1.cell? ⟨X,5,none⟩=some (.slice A3 n3 c3):=by rw[<-an,<-hX];simp[go_sem]
 have k6:W1.cell? ⟨X,6,none⟩=some (.slice A4 n4 c4):=by rw[<-an,<-hX];simp[go_sem]
 have k7:W1.cell? ⟨X,7,none⟩=some (.int .i64 drift):=by rw[<-an,<-hX];simp[go_sem]
 have k8:W1.cell? ⟨X,8,none⟩=some (.int .i64 stop):=by rw[<-an,<-hX];simp[go_sem]
 rw[hX] at aL kP HH HD pz pB;rw[hX];have aU:=jq aL;clear aL;go_enter func44,ntmps44;go_wp2_with fail;refine (aqJ _ hs _ ((HH.out.keep km aU.out).more sh (by omega))).mono ?_;rintro e w2 ⟨rfl,ac⟩;have aM:=ac.size;replace k0:=(cl ac (by omega)).trans k0;replace k1:=(cl ac (by omega)).trans k1;replace k2:=(cl ac (by omega)).trans k2;replace k3:=(cl ac (by omega)).trans k3;replace k4:=(cl ac (by omega)).trans k4;replace k5:=(cl ac (by omega)).trans k5;replace k6:=(cl ac (by omega)).trans k6;replace k7:=(cl ac (by omega)).trans k7;replace k8:=(cl ac (by omega)).trans k8;have ak:=jq (aU.out.trans (ac.mono (by omega)));clear ac an;obtain⟨b1,aw⟩:∃ b1,Np.yes (Np.VHosts hs)=b1:=⟨_,rfl⟩;rw[aw];have sV:=jq aw;clear aw
 cases b1 with
 | false=>
  have HX:Hid (r=false):=jq (by rw[<-HR.out];exact Np.aN λq=>by have:=Np.bO q.1.1.1.1;rw[sV.out] at this;cases this);go_wp2_with fail;go_ret;exact⟨ag HX.out.symm,ak.out⟩
 | true=>
 go_wp2_with fail;refine (arZ s ap ty life _ d _ hints _ ((pz.out.keep cH ak.out).more du (by omega)) ((pB.out.keep lG ak.out).more sj (by omega))).mono ?_;rintro e w3 ⟨rfl,am⟩;have dP:=am.size;replace k0:=(cl am (by omega)).trans k0;replace k1:=(cl am (by omega)).trans k1;replace k2:=(cl am (by omega)).trans k2;replace k3:=(cl am (by omega)).trans k3;replace k4:=(cl am (by omega)).trans k4;replace k5:=(cl am (by omega)).trans k5;replace k6:=(cl am (by omega)).trans k6;replace k7:=(cl am (by omega)).trans k7;replace k8:=(cl am (by omega)).trans k8;have az:=jq (ak.out.trans (am.mono (by omega)));clear am;obtain⟨b2,ac⟩:∃ b2,Np.yes (Np.VRoot ⟨s.data.toList,ty,life,d⟩ hints)=b2:=⟨_,rfl⟩;rw[ac];have zX:=jq ac;clear ac
 cases b2 with
 | false=>
  have HX:Hid (r=false):=jq (by rw[<-HR.out];exact Np.aN λq=>by have:=Np.bO q.1.1.1.2;rw[zX.out] at this;cases this);go_wp2_with fail;go_ret;exact⟨ag HX.out.symm,az.out⟩
 | true=>
 by_cases g1:stop<1
 ·have dg1:decide (stop<1)=true:=uQ g1;have HX:Hid (r=false):=jq (by rw[<-HR.out];exact Np.aN λq=>by have:=jd.out.1 q.1.1.2;omega);clear g1;go_wp2_with fail;go_ret;exact⟨ag HX.out.symm,az.out⟩
 have dg1:decide (stop<1)=false:=tQ g1;by_cases g2:10000000<stop
 ·have dg2:decide (10000000<stop)=true:=uQ g2;have HX:Hid (r=false):=jq (by rw[<-HR.out];exact Np.aN λq=>by have:=jd.out.1 q.1.1.2;omega);clear g2;go_wp2_with fail;go_ret;exact⟨ag HX.out.symm,az.out⟩
 have dg2:decide (10000000<stop)=false:=tQ g2;by_cases g3:drift<0
 ·have dg3:decide (drift<0)=true:=uQ g3;have HX:Hid (r=false):=jq (by rw[<-HR.out];exact Np.aN λq=>by have:=jd.out.1 q.1.1.2;omega);clear g3;go_wp2_with fail;go_ret;exact⟨ag HX.out.symm,az.out⟩
 have dg3:decide (drift<0)=false:=tQ g3;by_cases g4:1000<drift
 ·have dg4:decide (1000<drift)=true:=uQ g4;have HX:Hid (r=false):=jq (by rw[<-HR.out];exact Np.aN λq=>by have:=jd.out.1 q.1.1.2;omega);clear g4;go_wp2_with fail;go_ret;exact⟨ag HX.out.symm,az.out⟩
 have dg4:decide (1000<drift)=false:=tQ g4;have d5:decide (4000<(n2:Int))=false:=tQ (by omega);have FI:Hid (Np.sW ic):=jq (jd.out.2 (by omega));have ga:Hid (l.length=n2):=jq HN.out.2.1;clear g1 g2 g3 g4;go_wp2_with fail;go_loopw [3] (λi wr=>∃ (k:Nat),k<=n2/\i = .int .i64 k/\w3.heap.size<=wr.heap.size/\Hid (Below w3.heap.size w3 wr)/\Hid (∀ c∈l.take k,Np.CopyOk ic c)/\Hid ((l.take k).Pairwise λc d=>¬ Np.jH c d)) (λi _=>n2 - (intOf i).toNat)
 case atStart=>exact⟨0,jQ _,rfl,bQ _,jq (vQ _ _),jq (by simp),jq (by simp)⟩
 case round=>
  obtain⟨k,hk,rfl,a3X,bH,bI,nC⟩:=hrel;have HB:=jq (az.out.trans (bH.out.mono (by omega)));have q0:=(cl bH.out (by omega)).trans k0;have q1:=(cl bH.out (by omega)).trans k1;have q8:=(cl bH.out (by omega)).trans k8;by_cases aa:k<n2
  ·obtain⟨x,ab⟩:∃ x,l[k]?=some x:=⟨_,aQ (by rw[ga.out];exact aa)⟩;obtain⟨b,o,sn,vz,rfl,bU,aF,cx,fK,f0,f1,f2,f3,f4⟩:=ve (HD.out.keep kk HB.out) ab;obtain⟨Az,cz,rfl,_,_⟩:=al fK;obtain⟨nz,jy⟩:∃ nz,x.zone.sets.length=nz:=⟨_,rfl⟩;rw[jy] at f4;have HT:Hid (l.take (k+1)=l.take k ++ [x]):=jq (by
    obtain⟨hl,he⟩:=cQ.1 ab;rw[fQ hl,he])
   have HF:Hid (¬ Np.CopyOk ic x->r=false):=jq (λh=>by rw[<-HR.out];exact Np.aN λq=>h (q.1.2 x (gQ ab)));have uo:Hid (∀ (j:Nat) (y:Np.Copy),j<k->l[j]?=some y->Np.jH y x->r=false):=jq (λj y hj hy iy=>by
    rw[<-HR.out];refine Np.aN λq=>?_;have h1:=q.2;rw[List.pairwise_iff_getElem] at h1;obtain⟨e1,e2⟩:=cQ.1 hy;obtain⟨e3,e4⟩:=cQ.1 ab;have h2:=h1 j k e1 e3 hj;rw[e2,e4] at h2;exact h2 iy)
   have zZ:Hid (x.zone.sets.length<=20000):=jq (HZ.out x (gQ ab));have aS:=jq aF;have lR:Hid (SlR bk 5 wr wr.heap.size (.slice Az nz cz) x.zone.sets):=jq (by rw[<-jy];exact fK.more bY (by omega));obtain⟨w4,bA⟩:∃ w4,wr.alloc (.cells #[.int .i64 x.host,.int .i64 x.frm,.int .i64 x.til,.string sn,.slice Az nz cz] 46)=w4:=⟨_,rfl⟩;have eC:w4.heap.size=wr.heap.size+1:=by rw[<-bA];simp
   have ar:Below wr.heap.size wr w4:=by rw[<-bA];exact (vQ _ _).alloc (bQ _) _
   have p0:w4.cell? ⟨wr.heap.size,0,none⟩=some (.int .i64 x.host):=by rw[<-bA];simp[go_sem]
   have p1:w4.cell? ⟨wr.heap.size,1,none⟩=some (.int .i64 x.frm):=by rw[<-bA];simp[go_sem]
   have p2:w4.cell? ⟨wr.heap.size,2,none⟩=some (.int .i64 x.til):=by rw[<-bA];simp[go_sem]
   have p3:w4.cell? ⟨wr.heap.size,3,none⟩=some (.string sn):=by rw[<-bA];simp[go_sem]
   have p4:w4.cell? ⟨wr.heap.size,4,none⟩=some (.slice Az nz cz):=by rw[<-bA];simp[go_sem]
   have u0:w4.cell? ⟨X,0,none⟩=some (.slice A1 n1 c1):=(ar.cell (by dsimp only;omega)).trans q0;have u1:w4.cell? ⟨X,1,none⟩=some (.slice (some ⟨b,o,none⟩) n2 c2):=(ar.cell (by dsimp only;omega)).trans q1;have u8:w4.cell? ⟨X,8,none⟩=some (.int .i64 stop):=(ar.cell (by dsimp only;omega)).trans q8;have br:=jq (HB.out.trans (ar.mono (by omega)));have FT:=jq (bH.out.trans (ar.mono (by omega)));have uL:Hid (SlR bk 5 w4 w4.heap.size (.slice Az nz cz) x.zone.sets):=jq ((lR.out.keep ba ar).more bY ar.size);have AZ:X<wr.heap.size:=by omega
   clear ab aF fK jy ar lR;by_cases g1:x.host<0
   ·have dg1:decide (x.host<0)=true:=uQ g1;have HX:Hid (r=false):=jq (HF.out λh=>by have:=(iL.out x).1 h;omega);clear g1;go_wp2_with fail;go_ret;exact⟨ag HX.out.symm,br.out⟩
   have dg1:decide (x.host<0)=false:=tQ g1;by_cases g2:(n1:Int)<=x.host
   ·have dg2:decide ((n1:Int)<=x.host)=true:=uQ g2;have HX:Hid (r=false):=jq (HF.out λh=>by have:=(iL.out x).1 h;omega);clear g2;go_wp2_with fail;go_ret;exact⟨ag HX.out.symm,br.out⟩
   have dg2:decide ((n1:Int)<=x.host)=false:=tQ g2;by_cases g3:x.frm<0
   ·have dg3:decide (x.frm<0)=true:=uQ g3;have HX:Hid (r=false):=jq (HF.out λh=>by have:=(iL.out x).1 h;omega);clear g3;go_wp2_with fail;go_ret;exact⟨ag HX.out.symm,br.out⟩
   have dg3:decide (x.frm<0)=false:=tQ g3;by_cases g4:x.til<=x.frm
   ·have dg4:decide (x.til<=x.frm)=true:=uQ g4;have HX:Hid (r=false):=jq (HF.out λh=>by have:=(iL.out x).1 h;omega);clear g4;go_wp2_with fail;go_ret;exact⟨ag HX.out.symm,br.out⟩
   have dg4:decide (x.til<=x.frm)=false:=tQ g4;by_cases g5:stop<x.til
   ·have dg5:decide (stop<x.til)=true:=uQ g5;have HX:Hid (r=false):=jq (HF.out λh=>by have:=(iL.out x).1 h;omega);clear g5;go_wp2_with fail;go_ret;exact⟨ag HX.out.symm,br.out⟩
   have dg5:decide (stop<x.til)=false:=tQ g5;have zJ:Hid ((0<=x.host/\x.host<n1)/\(0<=x.frm/\x.frm<x.til/\x.til<=stop)):=jq (by omega);clear g1 g2 g3 g4 g5;go_wp2_with fail;refine (asJ sn cx _ x.zone.sets zZ.out w4 uL.out).mono ?_;rintro e w5 ⟨rfl,aC⟩;have jB:w4.heap.size<=w5.heap.size:=aC.size;have s0:w5.cell? ⟨wr.heap.size,0,none⟩=some (.int .i64 x.host):=(aC.cell (by dsimp only;omega)).trans p0;have s1:w5.cell? ⟨wr.heap.size,1,none⟩=some (.int .i64 x.frm):=(aC.cell (by dsimp only;omega)).trans p1;have s2:w5.cell? ⟨wr.heap.size,2,none⟩=some (.int .i64 x.til):=(aC.cell (by dsimp only;omega)).trans p2;have s3:w5.cell? ⟨wr.heap.size,3,none⟩=some (.string sn):=(aC.cell (by dsimp only;omega)).trans p3;have s4:w5.cell? ⟨wr.heap.size,4,none⟩=some (.slice Az nz cz):=(aC.cell (by dsimp only;omega)).trans p4;have t1:w5.cell? ⟨X,1,none⟩=some (.slice (some ⟨b,o,none⟩) n2 c2):=(aC.cell (by dsimp only;omega)).trans u1;have cj:=jq (br.out.trans (aC.mono (by omega)));have Sx:=jq (FT.out.trans (aC.mono (by omega)));clear aC p0 p1 p2 p3 p4 bA f0 f1 f2 f3 f4 u0 u1 u8 q0 q1 q8;obtain⟨rz,ed⟩:∃ rz,Np.yes (Np.VZone ⟨sn.data.toList,x.zone.sets⟩)=rz:=⟨_,rfl⟩;rw[ed];have fR:=jq ed;clear ed
   cases rz with
   | false=>
    have HX:Hid (r=false):=jq (HF.out λh=>by
     have h1:=((iL.out x).1 h).2.2;have h2:x.zone=⟨sn.data.toList,x.zone.sets⟩:=by rw[aS.out]
     rw[h2] at h1;have h3:=Np.bO h1;rw[fR.out] at h3
     cases h3)
    go_wp2_with fail;go_ret;exact⟨ag HX.out.symm,cj.out⟩
   | true=>
    have ea:Hid (Np.CopyOk ic x):=jq ((iL.out x).2 ⟨zJ.out.1,zJ.out.2,by
     have h2:x.zone=⟨sn.data.toList,x.zone.sets⟩:=by rw[aS.out]
     rw[h2];exact Np.fm.1 fR.out⟩)
    have GG:Hid (∀ c∈l.take (k+1),Np.CopyOk ic c):=jq (λc hc=>by
     rw[HT.out] at hc;rcases List.mem_append.1 hc with hc | hc
     ·exact bI.out c hc
     ·rw[List.mem_singleton] at hc;subst hc;exact ea.out)
    obtain⟨Y,hY⟩:∃ Y,wr.heap.size=Y:=⟨_,rfl⟩;rw[hY] at s0 s1 s2 s3 s4 AZ eC;have Ba:Y<w5.heap.size:=by omega
    have a3K:w3.heap.size<=w5.heap.size:=by omega
    obtain⟨wo,rfl⟩:∃ wo,wo=wr:=⟨_,rfl⟩;go_wp2_with fail;go_loopw [5] (λjv wi=>∃ (j:Nat),j<=k/\jv = .int .i64 j/\Hid (Below w5.heap.size w5 wi)/\Hid (∀ (t:Nat) (y:Np.Copy),t<j->l[t]?=some y->¬ Np.jH y x)) (λjv _=>k - (intOf jv).toNat)
    case atStart=>exact⟨0,jQ _,rfl,jq (vQ _ _),jq (λt y ht=>by omega)⟩
    case round=>
     obtain⟨j,tz,rfl,cA,HQ⟩:=hrel;have rW:=cA.out.size;by_cases hj:j<k
     ·obtain⟨y,dW⟩:∃ y,l[j]?=some y:=⟨_,aQ (by rw[ga.out];omega)⟩;have jJ:=jq (cj.out.trans (cA.out.mono (by omega)));obtain⟨b',o',sy,vy,cW,Bf,gm,a1J,Cd,f0,f1,f2,f3,f4⟩:=ve (HD.out.keep kk jJ.out) dW
      cases cW
      obtain⟨Ay,cy,rfl,_,_⟩:=al Cd;obtain⟨ny,rH⟩:∃ ny,y.zone.sets.length=ny:=⟨_,rfl⟩;rw[rH] at f4;have e0:=(cA.out.cell (p:=⟨Y,0,none⟩) Ba).trans s0;have e1:=(cA.out.cell (p:=⟨Y,1,none⟩) Ba).trans s1;have e2:=(cA.out.cell (p:=⟨Y,2,none⟩) Ba).trans s2;have e3:=(cA.out.cell (p:=⟨Y,3,none⟩) Ba).trans s3;have e4:=(cA.out.cell (p:=⟨Y,4,none⟩) Ba).trans s4;have m1:=(cl cA.out (by omega)).trans t1;have Nw:Y<wr.heap.size:=by omega
      have aQY:X<wr.heap.size:=by omega
      have aSJ:b<wr.heap.size:=by omega
      have nD:=jq gm;have bg:Hid (∀ o,Below w5.heap.size w5 (wr.alloc o)):=jq (λo=>cA.out.alloc (by omega) _);have HAT:Hid (∀ o,Below X w (wr.alloc o)):=jq (λo=>jJ.out.alloc (by omega) _);have C4:Hid (¬ Np.jH y x->∀ (t:Nat) (z:Np.Copy),t<j+1->l[t]?=some z->¬ Np.jH z x):=jq (λhn t z ht hz=>by
       by_cases e:t=j
       ·subst e;rw[dW] at hz;cases hz;exact hn
       ·exact HQ.out t z (by omega) hz)
      have zY:Hid (Np.jH y x->r=false):=jq (λhc=>uo.out j y hj dW hc);have aUY:(0:Int)<=(j:Int):=by omega
      have oZ:(j:Int)<(n2:Int):=by omega
      have aVQ:j<n2:=by omega
      clear dW gm Cd rH;by_cases h1:y.host=x.host
      case neg=>
       have eb0:(y.host == x.host)=false:=by simpa using h1
       have ed0:decide (y.host=x.host)=false:=tQ h1;have HX:=jq (C4.out (λhc=>h1 hc.1));clear h1;go_wp2_with fail;go_roundw
       case rel=>exact⟨j+1,by omega,by go_num,jq (bg.out _),HX⟩
       case measure=>simp[intOf] <;> omega
      have eb0:(y.host == x.host)=true:=by simpa using h1
      have ed0:decide (y.host=x.host)=true:=uQ h1;by_cases h2:sy.toList=sn.toList
      case neg=>
       have eb1:(sy.toList == sn.toList)=false:=by simpa using h2
       have HX:=jq (C4.out (λhc=>h2 (by rw[dQ,dQ,nD.out,aS.out];exact hc.2.1)));clear h2;go_wp2_with fail;go_roundw
       case rel=>exact⟨j+1,by omega,by go_num,jq (bg.out _),HX⟩
       case measure=>simp[intOf] <;> omega
      have eb1:(sy.toList == sn.toList)=true:=by simpa using h2
      by_cases h3:y.frm<x.til
      case neg=>
       have ed2:decide (y.frm<x.til)=false:=tQ h3;have HX:=jq (C4.out (λhc=>h3 hc.2.2.1));clear h3;go_wp2_with fail;go_roundw
       case rel=>exact⟨j+1,by omega,by go_num,jq (bg.out _),HX⟩
       case measure=>simp[intOf] <;> omega
      have ed2:decide (y.frm<x.til)=true:=uQ h3;by_cases h4:x.frm<y.til
      case neg=>
       have ed3:decide (x.frm<y.til)=false:=tQ h4;have HX:=jq (C4.out (λhc=>h4 hc.2.2.2));clear h4;go_wp2_with fail;go_roundw
       case rel=>exact⟨j+1,by omega,by go_num,jq (bg.out _),HX⟩
       case measure=>simp[intOf] <;> omega
      have ed3:decide (x.frm<y.til)=true:=uQ h4;have HX:Hid (r=false):=jq (zY.out ⟨h1,by rw[<-nD.out,<-aS.out,<-dQ,<-dQ];exact h2,h3,h4⟩);clear h1 h2 h3 h4;go_wp2_with fail;go_ret;exact⟨ag HX.out.symm,HAT.out _⟩
     ·have TH:Hid ((l.take (k+1)).Pairwise λc d=>¬ Np.jH c d):=jq (by
       rw[HT.out,List.pairwise_append];refine⟨nC.out,by simp,λc hc d hd=>?_⟩;rw[List.mem_singleton] at hd;subst hd;obtain⟨t,ht,rfl⟩:=nQ.1 hc;rw[List.length_take] at ht;rw[List.getElem_take];exact HQ.out t _ (by omega) (aQ (by omega)))
      go_wp2_with fail;go_roundw
      case rel=>exact⟨k+1,by omega,by go_num,by omega,jq (Sx.out.trans (cA.out.mono (by omega))),GG,TH⟩
      case measure=>simp[intOf] <;> omega
  ·have eK:Hid (l.take k=l):=jq (kQ (by rw[ga.out];omega));have zO:Hid (∀ c∈l,Np.CopyOk ic c):=jq (by have:=bI.out;rwa [eK.out] at this);have TI:Hid (l.Pairwise λc d=>¬ Np.jH c d):=jq (by have:=nC.out;rwa [eK.out] at this);go_wp2_with fail;refine (aoY _ l (by rw[ga.out];omega) (λc hc=>?_) _ ((HD.out.keep kk HB.out).more r9 (by omega))).mono ?_
   ·have h1:=((iL.out c).1 (zO.out c hc)).2.2.right;unfold Np.eF at h1;simp only[Bool.and_eq_true] at h1;exact yQ (sw h1.1.1) (by omega)
   rintro e w13 ⟨v13,rfl,BR,Be⟩;obtain⟨A13,c13,rfl⟩:=ck.form BR;have uh:=jq (HB.out.trans (Be.mono (by omega)));have IS:(Np.apexes l).length<=500:=by
    rw[<-Np.Hk]
    have:=Hx (l.map (·.zone.apex)) []
    rw[List.length_map,ga.out] at this;simp at this;omega
   obtain⟨m13,BL⟩:∃ m,(Np.apexes l).length=m:=⟨_,rfl⟩;rw[BL] at IS |-;have d13:decide ((m13:Int)<=500)=true:=uQ (by omega);clear BR Be BL;go_wp2_with fail;go_ret;exact⟨ag (by rw[<-HR.out];exact (Np.bO ⟨⟨⟨⟨Np.fm.1 sV.out,Np.fm.1 zX.out⟩,FI.out⟩,zO.out⟩,TI.out⟩).symm),uh.out⟩
end
end Go.Proofs.YtfnopgdcaanaiaaGreatDoor
