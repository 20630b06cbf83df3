/- Parts of the proof. No condition. -/
import Derived.Test.YtfnopgdcaanaiaaGreatDoorU16
import Derived.Test.YtfnopgdcaanaiaaGreatDoorU17
set_option linter.all false
set_option maxRecDepth 100000
set_option maxHeartbeats 8000000
namespace Go.Proofs.YtfnopgdcaanaiaaGreatDoor
open Go.Proofs.Tryz
section
open Go.RowKit
theorem YG{z:Np.Zone}(bn:z.sets.length<=20000):Np.RZoneOk z↔((((Np.ei z=true/\Np.ApexH z.apex z.sets)/\Np.xM z.sets)/\Np.n9 z.sets (Np.dE z))/\Np.wz z.apex z.sets (Np.dE z)):=by
 constructor
 ·intro h;refine⟨⟨⟨⟨h.right,h.start,h.server,h.fits⟩,λk x hx p h0 hp he=>?_⟩,h.cuts⟩,λk x b hx hb=>⟨h.form x (gQ hx),λho=>?_⟩⟩
  ·obtain⟨hk,rfl⟩:=cQ.1 hx;obtain⟨bY,rfl⟩:=cQ.1 hp;obtain⟨m,rfl⟩:∃ m,k=m+1:=⟨k - 1,by omega⟩;exact h.three m hk he
  ·obtain⟨h1,h2⟩:=MY.1 ho;exact h.sigs k x b hx hb h1 h2
 ·rintro⟨⟨⟨⟨h1,h2⟩,h3⟩,h4⟩,h5⟩;have bq:=Np.qU z;refine⟨h1,bn,h2.start,h2.server,h2.fits,λi hi he=>?_,h4,λk x b hx hb gS ht=>(h5 k x b hx hb).2 (MY.2 ⟨gS,ht⟩),λx hx=>?_⟩
  ·exact h3 (i+1) _ (aQ hi) _ (by omega) (aQ (by omega)) he
  ·obtain⟨k,hk,rfl⟩:=nQ.1 hx;exact (h5 k _ _ (aQ hk) (aQ (by omega))).1
theorem Yk(a:ByteArray)(ha:a.size<=140737488355328)(v:Value)(l:List Np.Signed)(bn:l.length<=20000)(w:World)(hd:SlR cA 5 w w.heap.size v l) :
 Calls prog 89 #[.agg #[.string a,v]] w (aeJ w.heap.size w (.bool (Np.yes (Np.VZone ⟨a.data.toList,l⟩)))):=by
 obtain⟨r,hr⟩:=abK (Np.yes (Np.VZone ⟨a.data.toList,l⟩));rw[hr];have HR:Hid (Np.yes ((((Np.ei ⟨a.data.toList,l⟩=true/\Np.ApexH a.data.toList l)/\Np.xM l)/\Np.n9 l (Np.dE ⟨a.data.toList,l⟩))/\Np.wz a.data.toList l (Np.dE ⟨a.data.toList,l⟩))=r):=jq (by
  rw[<-hr,Np.r9 (Np.ZL _)];exact (Np.r9 (YG (z:=⟨a.data.toList,l⟩) bn)).symm)
 have HD:=jq hd;obtain⟨A,c,rfl,aW,bh⟩:=aj hd;clear hr hd;have HW:Hid (∀ o,Below w.heap.size w (w.alloc o)):=jq (λo=>(vQ _ w).alloc (bQ _) _);go_enter func89,ntmps89;go_wp2_with fail;obtain⟨w1,ak⟩:=abK (w.alloc (.cells #[.string a,.slice A l.length c] 44));have c0:w1.cell? ⟨w.heap.size,0,none⟩=some (.string a):=by rw[<-ak];simp[go_sem]
 have c1:w1.cell? ⟨w.heap.size,1,none⟩=some (.slice A l.length c):=by rw[<-ak];simp[go_sem]
 have bg:w1.heap.size=w.heap.size+1:=by rw[<-ak];simp
 have ar:Hid (Below w.heap.size w w1):=jq (by rw[<-ak];exact HW.out _);rw[ak];clear ak;refine (Yb a ha _ l bn _ (HD.out.later bI eF ar.out)).mono ?_;rintro e w2 ⟨rfl,ab⟩;have aO:=ab.size;have ai:=abJ ar ab;replace c0:=abZ ab c0;replace c1:=abZ ab c1;clear ab
 cases dN:Np.ei ⟨a.data.toList,l⟩ with
 | false=>
  have HX:Hid (r=false):=jq (by rw[<-HR.out];exact Np.aK λh=>by rw[dN] at h;cases h.1.1.1.1);clear dN;go_wp2_with fail;go_ret;exact⟨ae HX.out.symm,ai.out⟩
 | true=>
  have ij:=jq dN;have ho:=Np.VZone.inOrder dN;have HO:=jq ho;have oK:=dN;unfold Np.ei at oK;simp only[Bool.and_eq_true] at oK;have HV:Hid (∀ x∈l,Np.aD x.set.name=true):=jq (λx hx=>Dn (Np.BP oK.2 x hx));have ie:Hid (∀ x∈l,x.set.name≠[]):=jq ho.name;clear dN oK ho;go_wp2_with fail;refine (Yj a _ l _ (HD.out.later bI eF ai.out)).mono ?_;rintro e w3 ⟨rfl,ah⟩;have fW:=ah.size;have aB:=abJ ai ah;replace c0:=abZ ah c0;replace c1:=abZ ah c1;clear ah
  cases Cw:Np.yes (Np.ApexH a.data.toList l) with
  | false=>
   have HX:Hid (r=false):=jq (by rw[<-HR.out];exact Np.aK λh=>qD Cw h.1.1.1.2);clear Cw;go_wp2_with fail;go_ret;exact⟨ae HX.out.symm,aB.out⟩
  | true=>
   have Qm:=jq (Np.fo.1 Cw);clear Cw;go_wp2_with fail;refine (Yi a _ l bn ie.out _ (HD.out.later bI eF aB.out)).mono ?_;rintro e w4 ⟨rfl,aq⟩;have gX:=aq.size;have bJ:=abJ aB aq;replace c0:=abZ aq c0;replace c1:=abZ aq c1;clear aq
   cases Cx:Np.yes (Np.xM l) with
   | false=>
    have HX:Hid (r=false):=jq (by rw[<-HR.out];exact Np.aK λh=>qD Cx h.1.1.2);clear Cx;go_wp2_with fail;go_ret;exact⟨ae HX.out.symm,bJ.out⟩
   | true=>
    have Qn:=jq (Np.fo.1 Cx);clear Cx;go_wp2_with fail;refine (X4 a _ l bn HO.out HV.out _ (HD.out.later bI eF bJ.out)).mono ?_;rintro e w5 ⟨rfl,aF⟩;have kJ:=aF.size;have cO:=abJ bJ aF;replace c0:=abZ aF c0;replace c1:=abZ aF c1;clear aF
    cases Cy:Np.yes (Np.n9 l (Np.dE ⟨a.data.toList,l⟩)) with
    | false=>
     have HX:Hid (r=false):=jq (by rw[<-HR.out];exact Np.aK λh=>qD Cy h.1.2);clear Cy;go_wp2_with fail;go_ret;exact⟨ae HX.out.symm,cO.out⟩
    | true=>
     have Ew:=jq (Np.fo.1 Cy);clear Cy;go_wp2_with fail;refine (X3 a _ l bn HO.out HV.out _ (HD.out.later bI eF cO.out)).mono ?_;rintro e w6 ⟨rfl,aV⟩;have ke:=aV.size;have cF:=abJ cO aV;replace c0:=abZ aV c0;replace c1:=abZ aV c1;clear aV
     cases qk:Np.yes (Np.wz a.data.toList l (Np.dE ⟨a.data.toList,l⟩)) with
     | false=>
      have HX:Hid (r=false):=jq (by rw[<-HR.out];exact Np.aK λh=>qD qk h.2);clear qk;go_wp2_with fail;go_ret;exact⟨ae HX.out.symm,cF.out⟩
     | true=>
      have Ex:=jq (Np.fo.1 qk);clear qk;go_wp2_with fail;go_ret;exact⟨ae (by rw[<-HR.out];exact (Np.bS ⟨⟨⟨⟨ij.out,Qm.out⟩,Qn.out⟩,Ew.out⟩,Ex.out⟩).symm),cF.out⟩
theorem ZI{h:Np.Hist} : Np.VHist h↔(((Np.VHosts h.hosts/\Np.VRoot h.anchor h.hints)/\Np.qP h)/\∀ c∈h.copies,Np.CopyOk h c)/\h.copies.Pairwise λc d=>¬ Np.ja c d:=
 ⟨λv=>⟨⟨⟨⟨v.hosts,v.root⟩,v.stop,v.drift⟩,v.each⟩,v.apart⟩,λv=>⟨v.1.1.2.1,v.1.1.2.2,v.1.1.1.1,v.1.1.1.2,v.1.2,v.2⟩⟩
theorem X7(hv:Value)(hs:List Np.Host)(cv:Value)(l:List Np.Copy)(s:ByteArray)(al:s.size<=140737488355328)(ty life:Int)(dv:Value)(d:List Np.Datum)(cX:Value)(hints:List Int)(drift stop:Int)(hl:l.length<=500)(hz:∀ p∈l,p.zone.sets.length<=20000)(w:World)
 (hh:SlR kl 3 w w.heap.size hv hs) (hd:SlR mG 5 w w.heap.size cv l) (hdd:SlR bW 3 w w.heap.size dv d) (lv:SlR gL 1 w w.heap.size cX hints) :
 Calls prog 44 #[.agg #[hv,cv,.string s,.int .i64 ty,.int .i64 life,dv,cX,.int .i64 drift,.int .i64 stop]] w λe w'=>e = .returned (.bool (Np.yes (Np.VHist ⟨hs,l,⟨s.data.toList,ty,life,d⟩,hints,drift,stop⟩)))/\Below w.heap.size w w':=by
 obtain⟨r,hr⟩:=abK (Np.yes (Np.VHist ⟨hs,l,⟨s.data.toList,ty,life,d⟩,hints,drift,stop⟩));obtain⟨gB,p8⟩:∃ h:Np.Hist,(⟨hs,l,⟨s.data.toList,ty,life,d⟩,hints,drift,stop⟩:Np.Hist)=h:=⟨_,rfl⟩;rw[hr];have HR:Hid (Np.yes ((((Np.VHosts hs/\Np.VRoot ⟨s.data.toList,ty,life,d⟩ hints)/\Np.qP gB)/\∀ c∈l,Np.CopyOk gB c)/\l.Pairwise λc d=>¬ Np.ja c d)=r):=jq (by rw[<-hr,<-p8];exact (Np.r9 (ZI (h:=⟨hs,l,⟨s.data.toList,ty,life,d⟩,hints,drift,stop⟩))).symm);have iG:Hid (Np.qP gB↔(1<=stop/\stop<=10000000)/\(0<=drift/\drift<=1000)):=jq (by rw[<-p8];exact Iff.rfl);have hZ:Hid (∀ c,Np.CopyOk gB c↔(0<=c.host/\c.host<hs.length)/\(0<=c.frm/\c.frm<c.til/\c.til<=stop)/\Np.VZone c.zone):=jq (λc=>by rw[<-p8];exact⟨λh=>⟨h.host,h.times,h.zone⟩,λh=>⟨h.1,h.2.1,h.2.2⟩⟩);have HH:=jq hh;have HD:=jq hd;have og:=jq hdd;have oj:=jq lv;have HZ:=jq hz;obtain⟨A1,c1,rfl,_,_⟩:=aj hh;obtain⟨A2,c2,rfl,_,_⟩:=aj hd;obtain⟨A3,c3,rfl,_,_⟩:=aj hdd;obtain⟨A4,c4,rfl,_,_⟩:=aj lv;clear hr p8 hd hh hdd lv hz;obtain⟨n1,bG⟩:=abK hs.length;obtain⟨n2,ct⟩:=abK l.length;obtain⟨n3,dL⟩:=abK d.length;obtain⟨n4,ef⟩:=abK hints.length;rw[bG] at HH hZ |-;rw[ct] at HD hl |-;rw[dL] at og |-;rw[ef] at oj |-;have HN:=jq (And.intro bG (And.intro ct (And.intro dL ef)));clear bG ct dL ef;obtain⟨W1,am⟩:=abK (w.alloc (.cells #[.slice A1 n1 c1,.slice A2 n2 c2,.string s,.int .i64 ty,.int .i64 life,.slice A3 n3 c3,.slice A4 n4 c4,.int .i64 drift,.int .i64 stop] 29));have aI:Below w.heap.size w W1:=by rw[<-am];exact (vQ _ _).alloc (bQ _) _
 have kL:W1.heap.size=w.heap.size+1:=by rw[<-am];simp
 obtain⟨X,hX⟩:=abK w.heap.size;have gK:=jq hX;have k0:W1.cell? ⟨X,0,none⟩=some (.slice A1 n1 c1):=by rw[<-am,<-hX];simp[go_sem]
 have k1:W1.cell? ⟨X,1,none⟩=some (.slice A2 n2 c2):=by rw[<-am,<-hX];simp[go_sem]
 have k2:W1.cell? ⟨X,2,none⟩=some (.string s):=by rw[<-am,<-hX];simp[go_sem]
 have k3:W1.cell? ⟨X,3,none⟩=some (.int .i64 ty):=by rw[<-am,<-hX];simp[go_sem]
 have k4:W1.cell? ⟨X,4,none⟩=some (.int .i64 life):=by rw[<-am,<-hX];simp[go_sem]
 have k5:W1.cell? ⟨X,5,none⟩=some (.slice A3 n3 c3):=by rw[<-am,<-hX];simp[go_sem]
 have k6:W1.cell? ⟨X,6,none⟩=some (.slice A4 n4 c4):=by rw[<-am,<-hX];simp[go_sem]
 have k7:W1.cell? ⟨X,7,none⟩=some (.int .i64 drift):=by rw[<-am,<-hX];simp[go_sem]
 have k8:W1.cell? ⟨X,8,none⟩=some (.int .i64 stop):=by rw[<-am,<-hX];simp[go_sem]
 rw[hX] at aI kL HH HD og oj;rw[hX];have aL:=jq aI;clear aI;go_enter func44,ntmps44;go_wp2_with fail;refine (X8 _ hs _ ((HH.out.keep nl aL.out).more vT (by omega))).mono ?_;rintro e w2 ⟨rfl,ab⟩;have aO:=ab.size;replace k0:=abZ ab k0;replace k1:=abZ ab k1;replace k2:=abZ ab k2;replace k3:=abZ ab k3;replace k4:=abZ ab k4;replace k5:=abZ ab k5;replace k6:=abZ ab k6;replace k7:=abZ ab k7;replace k8:=abZ ab k8;have ai:=abJ aL ab;clear ab am;obtain⟨b1,an⟩:=abK (Np.yes (Np.VHosts hs));rw[an];have qN:=jq an;clear an
 cases b1 with
 | false=>
  have HX:Hid (r=false):=jq (by rw[<-HR.out];exact Np.aK λq=>by have:=Np.bS q.1.1.1.1;rw[qN.out] at this;cases this);go_wp2_with fail;go_ret;exact⟨ae HX.out.symm,ai.out⟩
 | true=>
 go_wp2_with fail;refine (Yd s al ty life _ d _ hints _ ((og.out.keep cu ai.out).more cS (by omega)) ((oj.out.keep kM ai.out).more t8 (by omega))).mono ?_;rintro e w3 ⟨rfl,ah⟩;have fW:=ah.size;replace k0:=abZ ah k0;replace k1:=abZ ah k1;replace k2:=abZ ah k2;replace k3:=abZ ah k3;replace k4:=abZ ah k4;replace k5:=abZ ah k5;replace k6:=abZ ah k6;replace k7:=abZ ah k7;replace k8:=abZ ah k8;have aB:=abJ ai ah;clear ah;obtain⟨b2,ab⟩:=abK (Np.yes (Np.VRoot ⟨s.data.toList,ty,life,d⟩ hints));rw[ab];have xD:=jq ab;clear ab
 cases b2 with
 | false=>
  have HX:Hid (r=false):=jq (by rw[<-HR.out];exact Np.aK λq=>by have:=Np.bS q.1.1.1.2;rw[xD.out] at this;cases this);go_wp2_with fail;go_ret;exact⟨ae HX.out.symm,aB.out⟩
 | true=>
 by_cases g1:stop<1
 ·have dg1:decide (stop<1)=true:=uQ g1;have HX:Hid (r=false):=jq (by rw[<-HR.out];exact Np.aK λq=>by have:=iG.out.1 q.1.1.2;omega);clear g1;go_wp2_with fail;go_ret;exact⟨ae HX.out.symm,aB.out⟩
 have dg1:decide (stop<1)=false:=tQ g1;by_cases g2:10000000<stop
 ·have dg2:decide (10000000<stop)=true:=uQ g2;have HX:Hid (r=false):=jq (by rw[<-HR.out];exact Np.aK λq=>by have:=iG.out.1 q.1.1.2;omega);clear g2;go_wp2_with fail;go_ret;exact⟨ae HX.out.symm,aB.out⟩
 have dg2:decide (10000000<stop)=false:=tQ g2;by_cases g3:drift<0
 ·have dg3:decide (drift<0)=true:=uQ g3;have HX:Hid (r=false):=jq (by rw[<-HR.out];exact Np.aK λq=>by have:=iG.out.1 q.1.1.2;omega);clear g3;go_wp2_with fail;go_ret;exact⟨ae HX.out.symm,aB.out⟩
 have dg3:decide (drift<0)=false:=tQ g3;by_cases g4:1000<drift
 ·have dg4:decide (1000<drift)=true:=uQ g4;have HX:Hid (r=false):=jq (by rw[<-HR.out];exact Np.aK λq=>by have:=iG.out.1 q.1.1.2;omega);clear g4;go_wp2_with fail;go_ret;exact⟨ae HX.out.symm,aB.out⟩
 have dg4:decide (1000<drift)=false:=tQ g4;have d5:decide (4000<(n2:Int))=false:=acJ;have DE:Hid (Np.qP gB):=jq (iG.out.2 (by omega));have fE:Hid (l.length=n2):=jq HN.out.2.1;clear g1 g2 g3 g4;go_wp2_with fail;go_loopw [3] (λi wr=>∃ (k:Nat),k<=n2/\i = .int .i64 k/\w3.heap.size<=wr.heap.size/\Hid (Below w3.heap.size w3 wr)/\Hid (∀ c∈l.take k,Np.CopyOk gB c)/\Hid ((l.take k).Pairwise λc d=>¬ Np.ja c d)) (λi _=>n2 - (intOf i).toNat)
 case atStart=>exact⟨0,jQ _,rfl,bQ _,jq (vQ _ _),jq (by simp),jq (by simp)⟩
 case round=>
  obtain⟨k,hk,rfl,auJ,cw,bk,mB⟩:=hrel;have HB:=abJ aB cw.out;have q0:=abZ cw.out k0;have q1:=abZ cw.out k1;have q8:=abZ cw.out k8;by_cases aa:k<n2
  ·obtain⟨x,ac⟩:∃ x,l[k]?=some x:=⟨_,aQ (by rw[fE.out];exact aa)⟩;obtain⟨b,o,sn,vz,rfl,bp,aw,cE,fh,f0,f1,f2,f3,f4⟩:=ta (HD.out.keep nj HB.out) ac;obtain⟨Az,cz,rfl,_,_⟩:=aj fh;obtain⟨nz,iU⟩:=abK x.zone.sets.length;rw[iU] at f4;have HT:Hid (l.take (k+1)=l.take k ++ [x]):=jq (by
    obtain⟨hl,he⟩:=cQ.1 ac;rw[fQ hl,he])
   have HF:Hid (¬ Np.CopyOk gB x->r=false):=jq (λh=>by rw[<-HR.out];exact Np.aK λq=>h (q.1.2 x (gQ ac)));have sB:Hid (∀ (j:Nat) (y:Np.Copy),j<k->l[j]?=some y->Np.ja y x->r=false):=jq (λj y hj hy im=>by
    rw[<-HR.out];refine Np.aK λq=>?_;have h1:=q.2;rw[List.pairwise_iff_getElem] at h1;obtain⟨e1,e2⟩:=cQ.1 hy;obtain⟨e3,e4⟩:=cQ.1 ac;have h2:=h1 j k e1 e3 hj;rw[e2,e4] at h2;exact h2 im)
   have xF:Hid (x.zone.sets.length<=20000):=jq (HZ.out x (gQ ac));have aS:=jq aw;have lh:Hid (SlR cA 5 wr wr.heap.size (.slice Az nz cz) x.zone.sets):=jq (by rw[<-iU];exact fh.more eF (by omega));obtain⟨w4,bH⟩:=abK (wr.alloc (.cells #[.int .i64 x.host,.int .i64 x.frm,.int .i64 x.til,.string sn,.slice Az nz cz] 46));have gX:w4.heap.size=wr.heap.size+1:=by rw[<-bH];simp
   have aq:Below wr.heap.size wr w4:=by rw[<-bH];exact (vQ _ _).alloc (bQ _) _
   have p0:w4.cell? ⟨wr.heap.size,0,none⟩=some (.int .i64 x.host):=by rw[<-bH];simp[go_sem]
   have p1:w4.cell? ⟨wr.heap.size,1,none⟩=some (.int .i64 x.frm):=by rw[<-bH];simp[go_sem]
   have p2:w4.cell? ⟨wr.heap.size,2,none⟩=some (.int .i64 x.til):=by rw[<-bH];simp[go_sem]
   have p3:w4.cell? ⟨wr.heap.size,3,none⟩=some (.string sn):=by rw[<-bH];simp[go_sem]
   have p4:w4.cell? ⟨wr.heap.size,4,none⟩=some (.slice Az nz cz):=by rw[<-bH];simp[go_sem]
   have u0:w4.cell? ⟨X,0,none⟩=some (.slice A1 n1 c1):=abZ aq q0;have u1:w4.cell? ⟨X,1,none⟩=some (.slice (some ⟨b,o,none⟩) n2 c2):=abZ aq q1;have u8:w4.cell? ⟨X,8,none⟩=some (.int .i64 stop):=abZ aq q8;have bJ:=abJ HB aq;have DO:=abJ cw aq;have Bm:Hid (SlR cA 5 w4 w4.heap.size (.slice Az nz cz) x.zone.sets):=jq ((lh.out.keep bI aq).more eF aq.size);have ym:X<wr.heap.size:=by omega
   clear ac aw fh iU aq lh;by_cases g1:x.host<0
   ·have dg1:decide (x.host<0)=true:=uQ g1;have HX:Hid (r=false):=jq (HF.out λh=>by have:=(hZ.out x).1 h;omega);clear g1;go_wp2_with fail;go_ret;exact⟨ae HX.out.symm,bJ.out⟩
   have dg1:decide (x.host<0)=false:=tQ g1;by_cases g2:(n1:Int)<=x.host
   ·have dg2:decide ((n1:Int)<=x.host)=true:=uQ g2;have HX:Hid (r=false):=jq (HF.out λh=>by have:=(hZ.out x).1 h;omega);clear g2;go_wp2_with fail;go_ret;exact⟨ae HX.out.symm,bJ.out⟩
   have dg2:decide ((n1:Int)<=x.host)=false:=tQ g2;by_cases g3:x.frm<0
   ·have dg3:decide (x.frm<0)=true:=uQ g3;have HX:Hid (r=false):=jq (HF.out λh=>by have:=(hZ.out x).1 h;omega);clear g3;go_wp2_with fail;go_ret;exact⟨ae HX.out.symm,bJ.out⟩
   have dg3:decide (x.frm<0)=false:=tQ g3;by_cases g4:x.til<=x.frm
   ·have dg4:decide (x.til<=x.frm)=true:=uQ g4;have HX:Hid (r=false):=jq (HF.out λh=>by have:=(hZ.out x).1 h;omega);clear g4;go_wp2_with fail;go_ret;exact⟨ae HX.out.symm,bJ.out⟩
   have dg4:decide (x.til<=x.frm)=false:=tQ g4;by_cases g5:stop<x.til
   ·have dg5:decide (stop<x.til)=true:=uQ g5;have HX:Hid (r=false):=jq (HF.out λh=>by have:=(hZ.out x).1 h;omega);clear g5;go_wp2_with fail;go_ret;exact⟨ae HX.out.symm,bJ.out⟩
   have dg5:decide (stop<x.til)=false:=tQ g5;have wS:Hid ((0<=x.host/\x.host<n1)/\(0<=x.frm/\x.frm<x.til/\x.til<=stop)):=jq (by omega);clear g1 g2 g3 g4 g5;go_wp2_with fail;refine (Yk sn cE _ x.zone.sets xF.out w4 Bm.out).mono ?_;rintro e w5 ⟨rfl,aF⟩;have kJ:w4.heap.size<=w5.heap.size:=aF.size;have s0:w5.cell? ⟨wr.heap.size,0,none⟩=some (.int .i64 x.host):=abZ aF p0;have s1:w5.cell? ⟨wr.heap.size,1,none⟩=some (.int .i64 x.frm):=abZ aF p1;have s2:w5.cell? ⟨wr.heap.size,2,none⟩=some (.int .i64 x.til):=abZ aF p2;have s3:w5.cell? ⟨wr.heap.size,3,none⟩=some (.string sn):=abZ aF p3;have s4:w5.cell? ⟨wr.heap.size,4,none⟩=some (.slice Az nz cz):=abZ aF p4;have t1:w5.cell? ⟨X,1,none⟩=some (.slice (some ⟨b,o,none⟩) n2 c2):=abZ aF u1;have cO:=abJ bJ aF;have Po:=abJ DO aF;clear aF p0 p1 p2 p3 p4 bH f0 f1 f2 f3 f4 u0 u1 u8 q0 q1 q8;obtain⟨rz,dN⟩:=abK (Np.yes (Np.VZone ⟨sn.data.toList,x.zone.sets⟩));rw[dN];have ij:=jq dN;clear dN
   cases rz with
   | false=>
    have HX:Hid (r=false):=jq (HF.out λh=>by
     have h1:=((hZ.out x).1 h).2.2;have h2:x.zone=⟨sn.data.toList,x.zone.sets⟩:=by rw[aS.out]
     rw[h2] at h1;have h3:=Np.bS h1;rw[ij.out] at h3
     cases h3)
    go_wp2_with fail;go_ret;exact⟨ae HX.out.symm,cO.out⟩
   | true=>
    have sA:Hid (Np.CopyOk gB x):=jq ((hZ.out x).2 ⟨wS.out.1,wS.out.2,by
     have h2:x.zone=⟨sn.data.toList,x.zone.sets⟩:=by rw[aS.out]
     rw[h2];exact Np.fo.1 ij.out⟩)
    have En:Hid (∀ c∈l.take (k+1),Np.CopyOk gB c):=jq (λc hc=>by
     rw[HT.out] at hc;rcases List.mem_append.1 hc with hc | hc
     ·exact bk.out c hc
     ·rw[List.mem_singleton] at hc;subst hc;exact sA.out)
    obtain⟨Y,hY⟩:=abK wr.heap.size;rw[hY] at s0 s1 s2 s3 s4 ym gX;have yn:Y<w5.heap.size:=by omega
    have auZ:w3.heap.size<=w5.heap.size:=by omega
    obtain⟨wo,rfl⟩:=abX wr;go_wp2_with fail;go_loopw [5] (λjv wi=>∃ (j:Nat),j<=k/\jv = .int .i64 j/\Hid (Below w5.heap.size w5 wi)/\Hid (∀ (t:Nat) (y:Np.Copy),t<j->l[t]?=some y->¬ Np.ja y x)) (λjv _=>k - (intOf jv).toNat)
    case atStart=>exact⟨0,jQ _,rfl,jq (vQ _ _),jq (λt y ht=>by omega)⟩
    case round=>
     obtain⟨j,yS,rfl,cr,HQ⟩:=hrel;have rO:=cr.out.size;by_cases hj:j<k
     ·obtain⟨y,cn⟩:∃ y,l[j]?=some y:=⟨_,aQ (by rw[fE.out];omega)⟩;have jb:=abJ cO cr.out;obtain⟨b',o',sy,vy,l3,yu,ju,arZ,zG,f0,f1,f2,f3,f4⟩:=ta (HD.out.keep nj jb.out) cn
      cases l3
      obtain⟨Ay,cy,rfl,_,_⟩:=aj zG;obtain⟨ny,mc⟩:=abK y.zone.sets.length;rw[mc] at f4;have e0:=(cr.out.cell (p:=⟨Y,0,none⟩) yn).trans s0;have e1:=(cr.out.cell (p:=⟨Y,1,none⟩) yn).trans s1;have e2:=(cr.out.cell (p:=⟨Y,2,none⟩) yn).trans s2;have e3:=(cr.out.cell (p:=⟨Y,3,none⟩) yn).trans s3;have e4:=(cr.out.cell (p:=⟨Y,4,none⟩) yn).trans s4;have m1:=abZ cr.out t1;have KV:Y<wr.heap.size:=by omega
      have afZ:X<wr.heap.size:=by omega
      have ahQ:b<wr.heap.size:=by omega
      have uA:=jq ju;have ba:Hid (∀ o,Below w5.heap.size w5 (wr.alloc o)):=jq (λo=>cr.out.alloc (by omega) _);have HAT:Hid (∀ o,Below X w (wr.alloc o)):=jq (λo=>jb.out.alloc (by omega) _);have Bd:Hid (¬ Np.ja y x->∀ (t:Nat) (z:Np.Copy),t<j+1->l[t]?=some z->¬ Np.ja z x):=jq (λhn t z ht hz=>by
       by_cases e:t=j
       ·subst e;rw[cn] at hz;cases hz;exact hn
       ·exact HQ.out t z (by omega) hz)
      have xE:Hid (Np.ja y x->r=false):=jq (λhc=>sB.out j y hj cn hc);have akZ:(0:Int)<=(j:Int):=by omega
      have nS:(j:Int)<(n2:Int):=by omega
      have akJ:j<n2:=by omega
      clear cn ju zG mc;by_cases h1:y.host=x.host
      case neg=>
       have eb0:(y.host == x.host)=false:=by simpa using h1
       have ed0:decide (y.host=x.host)=false:=tQ h1;have HX:=jq (Bd.out (λhc=>h1 hc.1));clear h1;go_wp2_with fail;go_roundw
       case rel=>exact⟨j+1,by omega,by go_num,jq (ba.out _),HX⟩
       case measure=>simp[intOf] <;> omega
      have eb0:(y.host == x.host)=true:=by simpa using h1
      have ed0:decide (y.host=x.host)=true:=uQ h1;by_cases h2:sy.toList=sn.toList
      case neg=>
       have eb1:(sy.toList == sn.toList)=false:=by simpa using h2
       have HX:=jq (Bd.out (λhc=>h2 (by rw[dQ,dQ,uA.out,aS.out];exact hc.2.1)));clear h2;go_wp2_with fail;go_roundw
       case rel=>exact⟨j+1,by omega,by go_num,jq (ba.out _),HX⟩
       case measure=>simp[intOf] <;> omega
      have eb1:(sy.toList == sn.toList)=true:=by simpa using h2
      by_cases h3:y.frm<x.til
      case neg=>
       have ed2:decide (y.frm<x.til)=false:=tQ h3;have HX:=jq (Bd.out (λhc=>h3 hc.2.2.1));clear h3;go_wp2_with fail;go_roundw
       case rel=>exact⟨j+1,by omega,by go_num,jq (ba.out _),HX⟩
       case measure=>simp[intOf] <;> omega
      have ed2:decide (y.frm<x.til)=true:=uQ h3;by_cases h4:x.frm<y.til
      case neg=>
       have ed3:decide (x.frm<y.til)=false:=tQ h4;have HX:=jq (Bd.out (λhc=>h4 hc.2.2.2));clear h4;go_wp2_with fail;go_roundw
       case rel=>exact⟨j+1,by omega,by go_num,jq (ba.out _),HX⟩
       case measure=>simp[intOf] <;> omega
      have ed3:decide (x.frm<y.til)=true:=uQ h4;have HX:Hid (r=false):=jq (xE.out ⟨h1,by rw[<-uA.out,<-aS.out,<-dQ,<-dQ];exact h2,h3,h4⟩);clear h1 h2 h3 h4;go_wp2_with fail;go_ret;exact⟨ae HX.out.symm,HAT.out _⟩
     ·have Qk:Hid ((l.take (k+1)).Pairwise λc d=>¬ Np.ja c d):=jq (by
       rw[HT.out,List.pairwise_append];refine⟨mB.out,by simp,λc hc d hd=>?_⟩;rw[List.mem_singleton] at hd;subst hd;obtain⟨t,ht,rfl⟩:=nQ.1 hc;rw[List.length_take] at ht;rw[List.getElem_take];exact HQ.out t _ (by omega) (aQ (by omega)))
      go_wp2_with fail;go_roundw
      case rel=>exact⟨k+1,by omega,by go_num,by omega,abJ Po cr.out,En,Qk⟩
      case measure=>simp[intOf] <;> omega
  ·have jO:Hid (l.take k=l):=jq (kQ (by rw[fE.out];omega));have xi:Hid (∀ c∈l,Np.CopyOk gB c):=jq (by have:=bk.out;rwa [jO.out] at this);have Ql:Hid (l.Pairwise λc d=>¬ Np.ja c d):=jq (by have:=mB.out;rwa [jO.out] at this);go_wp2_with fail;refine (XW _ l (by rw[fE.out];omega) (λc hc=>?_) _ ((HD.out.keep nj HB.out).more zX (by omega))).mono ?_
   ·have h1:=((hZ.out c).1 (xi.out c hc)).2.2.right;unfold Np.ei at h1;simp only[Bool.and_eq_true] at h1;exact yQ (qC h1.1.1) (by omega)
   rintro e w13 ⟨v13,rfl,zi,yt⟩;obtain⟨A13,c13,rfl⟩:=bV.form zi;have DD:=abJ HB yt;have F9:(Np.apexes l).length<=500:=by
    rw[<-Np.JL]
    have:=Ff (l.map (·.zone.apex)) []
    rw[List.length_map,fE.out] at this;simp at this;omega
   obtain⟨m13,zb⟩:=abK ((Np.apexes l).length);rw[zb] at F9 |-;have d13:decide ((m13:Int)<=500)=true:=acK;clear zi yt zb;go_wp2_with fail;go_ret;exact⟨ae (by rw[<-HR.out];exact (Np.bS ⟨⟨⟨⟨Np.fo.1 qN.out,Np.fo.1 xD.out⟩,DE.out⟩,xi.out⟩,Ql.out⟩).symm),DD.out⟩
end
section
open Go.RowKit Go.Shelf

end
end Go.Proofs.YtfnopgdcaanaiaaGreatDoor
