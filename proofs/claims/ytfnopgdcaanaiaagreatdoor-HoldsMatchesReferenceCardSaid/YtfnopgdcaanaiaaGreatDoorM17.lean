/- Parts of the proof. No condition. -/
import Derived.Test.YtfnopgdcaanaiaaGreatDoorM14
import Derived.Test.YtfnopgdcaanaiaaGreatDoorM15
import Derived.Test.YtfnopgdcaanaiaaGreatDoorM16
set_option linter.all false
set_option maxRecDepth 100000
set_option maxHeartbeats 8000000
namespace Go.Proofs.YtfnopgdcaanaiaaGreatDoor
open Go.Proofs.Tryz
section
open Go.RowKit Go.MapKept Go.Shelf Go.Sort
theorem Y4(f u f' u':Int)(w:World) :
 Calls prog 122 #[.agg #[.int .i64 f,.int .i64 u],.agg #[.int .i64 f',.int .i64 u']] w λe w'=>e = .returned (.int .i64 (Np.de f f'))/\∃ q os,w'=grow (w.drewN q) os:=by
 go_enter func122,ntmps122;go_wp2_with (go_at_call 123;refine (Bt _ _ _).mono ?_;rintro e w' ⟨rfl,rfl⟩);go_ret;exact⟨rfl,0,_,by rw[alloc_eq_grow,alloc_eq_grow,grow_grow];rfl⟩
def Np.tT(h:Np.Hist):Prop:=(1<=h.stop/\h.stop<=10000000)/\(0<=h.drift/\h.drift<=1000)
theorem aSK{h:Np.Hist} : Np.VHist h↔((Np.tT h/\Np.VWorld ⟨h.hosts,[],h.anchor,h.hints⟩)/\∀ c∈h.copies,Np.CopyOk h c)/\h.copies.Pairwise λc d=>¬ Np.kH c d:=
 ⟨λv=>⟨⟨⟨⟨v.stop,v.drift⟩,v.hosts,v.root,λp hp=>(by cases hp),List.Pairwise.nil⟩,v.each⟩,v.apart⟩,λv=>⟨v.1.1.1.1,v.1.1.1.2,v.1.1.2.hosts,v.1.1.2.root,v.1.2,v.2⟩⟩
structure rU(W:World)(X:Nat)(hv cv:Value)(stop:Int):Prop where
 c0:W.cell? ⟨X,0,none⟩=some hv
 c1:W.cell? ⟨X,1,none⟩=some cv
 c8:W.cell? ⟨X,8,none⟩=some (.int .i64 stop)
 lt:X<W.heap.size
theorem rU.keep{W W':World}{X B:Nat}{hv cv:Value}{stop:Int}(h:rU W X hv cv stop)(hb:Below B W W')(hB:X<B):rU W' X hv cv stop:=⟨(hb.cell hB).trans h.c0,(hb.cell hB).trans h.c1,(hb.cell hB).trans h.c8,lQ h.lt hb.size⟩
theorem rU.turned{W W':World}{X r:Nat}{hv cv:Value}{stop:Int}(h:rU W X hv cv stop)(ht:Turned r W W')(hr:X≠r):rU W' X hv cv stop:=⟨(ht.cell hr).trans h.c0,(ht.cell hr).trans h.c1,(ht.cell hr).trans h.c8,by rw[ht.size];exact h.lt⟩
theorem XO{xs xs6:List ga}{l:List Np.Copy}{c:Np.Copy}{j:Nat}{g:List Np.Span}{v v':Value}(h:Np.GrpI (xs.map λx=>(x.1,x.2.1)) l)(hc:(xs6=xs/\xs[j]?=some (Np.gM c,g,v))\/(Np.gM c∉xs.map (·.1)/\xs6=xs ++ [(Np.gM c,[],.slice none 0 0)]/\j=xs.length/\g = []/\v = .slice none 0 0)):Np.GrpI ((xs6.set j (Np.gM c,g ++ [Np.j8 c],v')).map λx=>(x.1,x.2.1)) (l ++ [c]):=by
 rcases hc with ⟨rfl,hj⟩ | ⟨hn,rfl,rfl,rfl,rfl⟩
 ·rw[List.map_set];exact h.old (by rw[List.getElem?_map,hj];rfl)
 ·rw[List.set_append_right _ _ (bQ _),Nat.sub_self,List.set_cons_zero,List.map_append];exact h.new (by rw[List.map_map];exact hn)
theorem PM(hv:Value)(hs:List Np.Host)(cv:Value)(l:List Np.Copy)(s:ByteArray)(an:s.size<=140737488355328)(ty life:Int)(dv:Value)(d:List Np.Datum)(dU:Value)(hints:List Int)(drift stop:Int)(hl:l.length<=500)(hz:∀ p∈l,p.zone.sets.length<=20000)(w:World)(hR:jo w w.heap.size)
 (hh:SlR kS 3 w w.heap.size hv hs) (hd:SlR my 5 w w.heap.size cv l) (hdd:SlR bR 3 w w.heap.size dv d) (kx:SlR lF 1 w w.heap.size dU hints) :
 Calls prog 56 #[.agg #[hv,cv,.string s,.int .i64 ty,.int .i64 life,dv,dU,.int .i64 drift,.int .i64 stop]] w λe w'=>e = .returned (.bool (Np.yes (Np.VHist ⟨hs,l,⟨s.data.toList,ty,life,d⟩,hints,drift,stop⟩)))/\Below w.heap.size w w':=by
 obtain⟨r,hr⟩:=acJ (Np.yes (Np.VHist ⟨hs,l,⟨s.data.toList,ty,life,d⟩,hints,drift,stop⟩));obtain⟨jh,sP⟩:∃ h:Np.Hist,(⟨hs,l,⟨s.data.toList,ty,life,d⟩,hints,drift,stop⟩:Np.Hist)=h:=⟨_,rfl⟩;rw[hr];have HR:Hid (Np.yes (((Np.tT jh/\Np.VWorld ⟨hs,[],⟨s.data.toList,ty,life,d⟩,hints⟩)/\∀ c∈l,Np.CopyOk jh c)/\l.Pairwise λc d=>¬ Np.kH c d)=r):=jq (by rw[<-hr,<-sP];exact (Np.ve (aSK (h:=⟨hs,l,⟨s.data.toList,ty,life,d⟩,hints,drift,stop⟩))).symm);have ke:Hid (Np.tT jh↔(1<=stop/\stop<=10000000)/\(0<=drift/\drift<=1000)):=jq (by rw[<-sP];exact Iff.rfl);have jE:Hid (∀ c,Np.CopyOk jh c↔(0<=c.host/\c.host<hs.length)/\(0<=c.frm/\c.frm<c.til/\c.til<=stop)/\Np.VZone c.zone):=jq (λc=>by rw[<-sP];exact⟨λh=>⟨h.host,h.times,h.zone⟩,λh=>⟨h.1,h.2.1,h.2.2⟩⟩);have HH:=jq hh;have HD:=jq hd;have qG:=jq hdd;have qJ:=jq kx;have gz:=jq hR;have HZ:=jq hz;obtain⟨A1,c1,rfl,_,_⟩:=ak hh;obtain⟨A2,c2,rfl,_,_⟩:=ak hd;obtain⟨A3,c3,rfl,_,_⟩:=ak hdd;obtain⟨A4,c4,rfl,_,_⟩:=ak kx;clear hr sP hd hR hh hdd kx hz;obtain⟨n1,bP⟩:=acJ hs.length;obtain⟨n2,cr⟩:=acJ l.length;obtain⟨n3,eu⟩:=acJ d.length;obtain⟨n4,eP⟩:=acJ hints.length;rw[bP] at HH jE |-;rw[cr] at HD hl |-;rw[eu] at qG |-;rw[eP] at qJ |-;have HN:=jq (And.intro bP (And.intro cr (And.intro eu eP)));clear bP cr eu eP;obtain⟨W1,am⟩:=acJ (w.alloc (.cells #[.slice A1 n1 c1,.slice A2 n2 c2,.string s,.int .i64 ty,.int .i64 life,.slice A3 n3 c3,.slice A4 n4 c4,.int .i64 drift,.int .i64 stop] 29));have aI:Below w.heap.size w W1:=by rw[<-am];exact (vQ _ _).alloc (bQ _) _
 have iS:W1.heap.size=w.heap.size+1:=by rw[<-am];simp
 obtain⟨X,hX⟩:=acJ w.heap.size;have kN:=jq hX;have k0:W1.cell? ⟨X,0,none⟩=some (.slice A1 n1 c1):=by rw[<-am,<-hX];simp[go_sem]
 have k1:W1.cell? ⟨X,1,none⟩=some (.slice A2 n2 c2):=by rw[<-am,<-hX];simp[go_sem]
 have k2:W1.cell? ⟨X,2,none⟩=some (.string s):=by rw[<-am,<-hX];simp[go_sem]
 have k3:W1.cell? ⟨X,3,none⟩=some (.int .i64 ty):=by rw[<-am,<-hX];simp[go_sem]
 have k4:W1.cell? ⟨X,4,none⟩=some (.int .i64 life):=by rw[<-am,<-hX];simp[go_sem]
 have k5:W1.cell? ⟨X,5,none⟩=some (.slice A3 n3 c3):=by rw[<-am,<-hX];simp[go_sem]
 have k6:W1.cell? ⟨X,6,none⟩=some (.slice A4 n4 c4):=by rw[<-am,<-hX];simp[go_sem]
 have k7:W1.cell? ⟨X,7,none⟩=some (.int .i64 drift):=by rw[<-am,<-hX];simp[go_sem]
 have k8:W1.cell? ⟨X,8,none⟩=some (.int .i64 stop):=by rw[<-am,<-hX];simp[go_sem]
 rw[hX] at aI iS HH HD qG qJ gz;rw[hX];have aV:=jq aI;clear aI;go_enter func56,ntmps56;by_cases g1:stop<1
 ·have dg1:decide (stop<1)=true:=uQ g1;have HX:Hid (r=false):=jq (by rw[<-HR.out];exact Np.aF λq=>by have:=ke.out.1 q.1.1.1;omega);clear g1;go_wp2_with fail;go_ret;exact⟨ag HX.out.symm,aV.out⟩
 have dg1:decide (stop<1)=false:=tQ g1;by_cases g2:10000000<stop
 ·have dg2:decide (10000000<stop)=true:=uQ g2;have HX:Hid (r=false):=jq (by rw[<-HR.out];exact Np.aF λq=>by have:=ke.out.1 q.1.1.1;omega);clear g2;go_wp2_with fail;go_ret;exact⟨ag HX.out.symm,aV.out⟩
 have dg2:decide (10000000<stop)=false:=tQ g2;by_cases g3:drift<0
 ·have dg3:decide (drift<0)=true:=uQ g3;have HX:Hid (r=false):=jq (by rw[<-HR.out];exact Np.aF λq=>by have:=ke.out.1 q.1.1.1;omega);clear g3;go_wp2_with fail;go_ret;exact⟨ag HX.out.symm,aV.out⟩
 have dg3:decide (drift<0)=false:=tQ g3;by_cases g4:1000<drift
 ·have dg4:decide (1000<drift)=true:=uQ g4;have HX:Hid (r=false):=jq (by rw[<-HR.out];exact Np.aF λq=>by have:=ke.out.1 q.1.1.1;omega);clear g4;go_wp2_with fail;go_ret;exact⟨ag HX.out.symm,aV.out⟩
 have dg4:decide (1000<drift)=false:=tQ g4;have d5:decide (4000<(n2:Int))=false:=adJ;have Gp:Hid (Np.tT jh):=jq (ke.out.2 (by omega));clear g1 g2 g3 g4;go_wp2_with fail;refine (aUZ _ hs _ [] s an ty life _ d _ hints (by simp) (by simp) _ ((gz.out.keep aV.out).more (by omega)) ((HH.out.keep oh aV.out).more x7 (by omega)) ⟨none,0,rfl,by simp,by simp,λi x hx=>by simp at hx⟩ ((qG.out.keep bV aV.out).more cu (by omega)) ((qJ.out.keep qy aV.out).more x8 (by omega))).mono ?_;rintro e w2 ⟨rfl,ac⟩;have aN:=ac.size;have Dm:Hid (rU w2 X (.slice A1 n1 c1) (.slice A2 n2 c2) stop):=jq (rU.keep ⟨k0,k1,k8,by omega⟩ ac (by omega));have ai:=acZ aV ac;clear ac am k0 k1 k2 k3 k4 k5 k6 k7 k8;have k0:=Dm.out.c0;have k1:=Dm.out.c1;have O2:=Dm.out.lt;obtain⟨b1,ay⟩:=acJ (Np.yes (Np.VWorld ⟨hs,[],⟨s.data.toList,ty,life,d⟩,hints⟩));rw[ay];have tR:=jq ay;clear ay;have mf:∀ (w:World),(Instr.makeMap 184 none).run prog w = .ok (.map (some w.heap.size)) (w.alloc (.map #[] 0)):=λw=>by
  simp[Instr.makeMap,Result.andThen]
 cases b1 with
 | false=>
  have HX:Hid (r=false):=jq (by rw[<-HR.out];exact Np.aF λq=>by have:=Np.bh q.1.1.2;rw[tR.out] at this;cases this);go_wp2_with fail;go_ret;exact⟨ag HX.out.symm,ai.out⟩
 | true=>
  go_wp2_with fail;obtain⟨wm,CP⟩:=acJ (w2.alloc (.map #[] 0));obtain⟨X1,l6⟩:=acJ w2.heap.size;have vL:Hid (MapX (X1+1) X1 [] wm):=jq (by rw[<-CP,<-l6];exact MapX.made _ _);have hzm:wm.heap.size=X1+1:=by rw[<-CP,<-l6];simp
  have ug:Below X1 w2 wm:=by rw[<-CP,<-l6];exact (vQ _ _).alloc (bQ _) _
  have Jm:X<X1:=by omega
  have Gw:Hid (rU wm X (.slice A1 n1 c1) (.slice A2 n2 c2) stop):=jq (Dm.out.keep ug Jm);have Gx:=acZ ai ug;rw[CP,l6];clear CP l6 ug k0 k1;have da:Hid (l.length=n2):=jq HN.out.2.1;go_loopw [47] (λi wr=>∃ (k:Nat) (xs:List ga),k<=n2/\i = .int .i64 k/\X1<wr.heap.size/\Hid (Below X1 wm wr)/\Hid (MapX (X1+1) X1 xs wr)/\Hid (Np.GrpI (xs.map λx=>(x.1,x.2.1)) (l.take k))/\Hid (∀ c∈l.take k,Np.CopyOk jh c)) (λi _=>n2 - (intOf i).toNat)
  case atStart=>exact⟨0,[],jQ _,rfl,by omega,jq (vQ _ _),vL,jq Np.GrpI.nil,jq (by simp)⟩
  case round=>
   obtain⟨k,xs,hk,rfl,dK,bG,HM,HG,bH⟩:=hrel;have HB:=acZ Gx bG.out;have ei:=jq (Gw.out.keep bG.out Jm);have k0:=ei.out.c0;have k8:=ei.out.c8;by_cases ab:k<n2
   ·obtain⟨x,aa⟩:∃ x,l[k]?=some x:=⟨_,aQ (by rw[da.out];exact ab)⟩;obtain⟨b,o,sn,vz,rfl,bA,aw,cB,fJ,f0,f1,f2,f3,f4⟩:=t8 (HD.out.keep mp HB.out) aa;obtain⟨Az,cz,rfl,_,_⟩:=ak fJ;obtain⟨nz,ju⟩:=acJ x.zone.sets.length;rw[ju] at f4;have HT:Hid (l.take (k+1)=l.take k ++ [x]):=jq (by
     obtain⟨hl,he⟩:=cQ.1 aa;rw[fQ hl,he])
    have HF:Hid (¬ Np.CopyOk jh x->r=false):=jq (λh=>by rw[<-HR.out];exact Np.aF λq=>h (q.1.2 x (gQ aa)));have Be:Hid (x.zone.sets.length<=20000):=jq (HZ.out x (gQ aa));have aT:=jq aw;have kk:Hid (SlR bO 5 wr wr.heap.size (.slice Az nz cz) x.zone.sets):=jq (by rw[<-ju];exact fJ.more cC (by omega));obtain⟨w3,fj⟩:=acJ (wr.alloc (.cells #[.int .i64 x.host,.int .i64 x.frm,.int .i64 x.til,.string sn,.slice Az nz cz] 46));have eR:w3.heap.size=wr.heap.size+1:=by rw[<-fj];simp
    have aq:Below wr.heap.size wr w3:=by rw[<-fj];exact (vQ _ _).alloc (bQ _) _
    have p0:w3.cell? ⟨wr.heap.size,0,none⟩=some (.int .i64 x.host):=by rw[<-fj];simp[go_sem]
    have p1:w3.cell? ⟨wr.heap.size,1,none⟩=some (.int .i64 x.frm):=by rw[<-fj];simp[go_sem]
    have p2:w3.cell? ⟨wr.heap.size,2,none⟩=some (.int .i64 x.til):=by rw[<-fj];simp[go_sem]
    have p3:w3.cell? ⟨wr.heap.size,3,none⟩=some (.string sn):=by rw[<-fj];simp[go_sem]
    have p4:w3.cell? ⟨wr.heap.size,4,none⟩=some (.slice Az nz cz):=by rw[<-fj];simp[go_sem]
    have q0:w3.cell? ⟨X,0,none⟩=some (.slice A1 n1 c1):=aaJ aq k0;have q8:w3.cell? ⟨X,8,none⟩=some (.int .i64 stop):=aaJ aq k8;have ar:=acZ HB aq;have Gy:=acZ bG aq;have oH:=jq (HM.out.keep aq);have lA:Hid (SlR bO 5 w3 w3.heap.size (.slice Az nz cz) x.zone.sets):=jq ((kk.out.keep bj aq).more cC aq.size);clear aa aw fJ ju aq kk;by_cases g1:x.host<0
    ·have dg1:decide (x.host<0)=true:=uQ g1;have HX:Hid (r=false):=jq (HF.out λh=>by have:=(jE.out x).1 h;omega);clear g1;go_wp2_with fail;go_ret;exact⟨ag HX.out.symm,ar.out⟩
    have dg1:decide (x.host<0)=false:=tQ g1;by_cases g2:(n1:Int)<=x.host
    ·have dg2:decide ((n1:Int)<=x.host)=true:=uQ g2;have HX:Hid (r=false):=jq (HF.out λh=>by have:=(jE.out x).1 h;omega);clear g2;go_wp2_with fail;go_ret;exact⟨ag HX.out.symm,ar.out⟩
    have dg2:decide ((n1:Int)<=x.host)=false:=tQ g2;by_cases g3:x.frm<0
    ·have dg3:decide (x.frm<0)=true:=uQ g3;have HX:Hid (r=false):=jq (HF.out λh=>by have:=(jE.out x).1 h;omega);clear g3;go_wp2_with fail;go_ret;exact⟨ag HX.out.symm,ar.out⟩
    have dg3:decide (x.frm<0)=false:=tQ g3;by_cases g4:x.til<=x.frm
    ·have dg4:decide (x.til<=x.frm)=true:=uQ g4;have HX:Hid (r=false):=jq (HF.out λh=>by have:=(jE.out x).1 h;omega);clear g4;go_wp2_with fail;go_ret;exact⟨ag HX.out.symm,ar.out⟩
    have dg4:decide (x.til<=x.frm)=false:=tQ g4;by_cases g5:stop<x.til
    ·have dg5:decide (stop<x.til)=true:=uQ g5;have HX:Hid (r=false):=jq (HF.out λh=>by have:=(jE.out x).1 h;omega);clear g5;go_wp2_with fail;go_ret;exact⟨ag HX.out.symm,ar.out⟩
    have dg5:decide (stop<x.til)=false:=tQ g5;have Au:Hid ((0<=x.host/\x.host<n1)/\(0<=x.frm/\x.frm<x.til/\x.til<=stop)):=jq (by omega);clear g1 g2 g3 g4 g5;go_wp2_with fail;refine (Tj sn cB _ x.zone.sets Be.out w3 ((gz.out.keep ar.out).more (by omega)) lA.out).mono ?_;rintro e w4 ⟨rfl,aC⟩;have fl:w3.heap.size<=w4.heap.size:=aC.size;have s0:w4.cell? ⟨wr.heap.size,0,none⟩=some (.int .i64 x.host):=aaJ aC p0;have s1:w4.cell? ⟨wr.heap.size,1,none⟩=some (.int .i64 x.frm):=aaJ aC p1;have s2:w4.cell? ⟨wr.heap.size,2,none⟩=some (.int .i64 x.til):=aaJ aC p2;have s3:w4.cell? ⟨wr.heap.size,3,none⟩=some (.string sn):=aaJ aC p3;have s4:w4.cell? ⟨wr.heap.size,4,none⟩=some (.slice Az nz cz):=aaJ aC p4;have aU:=acZ ar aC;have Gz:=acZ Gy aC;have yx:=jq (oH.out.keep aC);clear aC p0 p1 p2 p3 p4 fj f0 f1 f2 f3 f4 q0 q8 k0 k8 oH;obtain⟨rz,fy⟩:=acJ (Np.yes (Np.VZone ⟨sn.data.toList,x.zone.sets⟩));rw[fy];have ja:=jq fy;clear fy
    cases rz with
    | false=>
     have HX:Hid (r=false):=jq (HF.out λh=>by
      have h1:=((jE.out x).1 h).2.2;have h2:x.zone=⟨sn.data.toList,x.zone.sets⟩:=by rw[aT.out]
      rw[h2] at h1;have h3:=Np.bh h1;rw[ja.out] at h3
      cases h3)
     go_wp2_with fail;go_ret;exact⟨ag HX.out.symm,aU.out⟩
    | true=>
     have iU:Hid (Np.CopyOk jh x):=jq ((jE.out x).2 ⟨Au.out.1,Au.out.2,by
      have h2:x.zone=⟨sn.data.toList,x.zone.sets⟩:=by rw[aT.out]
      rw[h2];exact Np.fq.1 ja.out⟩)
     have Hq:Hid (∀ c∈l.take (k+1),Np.CopyOk jh c):=jq (λc hc=>by
      rw[HT.out] at hc;rcases List.mem_append.1 hc with hc | hc
      ·exact bH.out c hc
      ·rw[List.mem_singleton] at hc;subst hc;exact iU.out)
     have iY:Hid (Np.gM x=(x.host,sn.data.toList)):=jq (by unfold Np.gM;rw[aT.out]);obtain⟨w5,aX⟩:=acJ (w4.alloc (.cells #[.int .i64 x.host,.string sn] 186));obtain⟨w6,ct⟩:=acJ (w5.alloc (.cells #[.int .i64 x.frm,.int .i64 x.til] 110));have ik:w5.heap.size=w4.heap.size+1:=by rw[<-aX];simp
     have iy:w6.heap.size=w5.heap.size+1:=by rw[<-ct];simp
     have aH:Below w4.heap.size w4 w5:=by rw[<-aX];exact (vQ _ _).alloc (bQ _) _
     have aW:Below w4.heap.size w4 w6:=by rw[<-ct];exact aH.alloc (by omega) _
     have t0:w5.cell? ⟨w4.heap.size,0,none⟩=some (.int .i64 x.host):=by rw[<-aX];simp[go_sem]
     have t1:w5.cell? ⟨w4.heap.size,1,none⟩=some (.string sn):=by rw[<-aX];simp[go_sem]
     have u1:w5.cell? ⟨wr.heap.size,1,none⟩=some (.int .i64 x.frm):=aaJ aH s1;have u2:w5.cell? ⟨wr.heap.size,2,none⟩=some (.int .i64 x.til):=aaJ aH s2;have y0:w6.cell? ⟨w5.heap.size,0,none⟩=some (.int .i64 x.frm):=by rw[<-ct];simp[go_sem]
     have y1:w6.cell? ⟨w5.heap.size,1,none⟩=some (.int .i64 x.til):=by rw[<-ct];simp[go_sem]
     have AF:=jq (yx.out.keep aW);have dl:=acZ aU aW;have TQ:=acZ Gz aW;have iC:Hid (∀ (j:Nat) (g:List Np.Span) (v:Value),xs[j]?=some ((x.host,sn.data.toList),g,v)->g.length<=500):=jq (λj g v hj=>by
      have h1:=HG.out.each ((x.host,sn.data.toList),g) (List.mem_map.2 ⟨_,gQ hj,rfl⟩);simp only at h1;rw[h1];unfold Np.gq;rw[List.length_map];refine yQ (List.length_filter_le _ _) ?_;rw[List.length_take,da.out];omega)
     clear aH aW;go_wp2_with (first
      | (refine aWZ _ rfl _ _ rfl (X1+1) X1 xs rfl AF.out (Nat.lt_succ_self _) (x.host,sn.data.toList) rfl ?_;intro w7 j7 g7 v7 xs7 JD PN P2 CJ;have ej:=jq JD;have GZ:=jq PN;have G9:=jq P2;have yJ:=jq CJ;have y0':w7.cell? ⟨w5.heap.size,0,none⟩=some (.int .i64 x.frm):=(CJ.cell (by dsimp only;omega)).trans y0;have y1':w7.cell? ⟨w5.heap.size,1,none⟩=some (.int .i64 x.til):=(CJ.cell (by dsimp only;omega)).trans y1;have mR:w7.heap.size=w6.heap.size:=CJ.size;have Dx:Hid (g7.length<=100000):=jq (by rcases JD with ⟨_,hj⟩ | ⟨_,_,_,rfl,_⟩;exact yQ (iC.out _ _ _ hj) (by omega);simp);clear JD PN P2 CJ)
      | (at_builtin;refine aVK _ rfl _ _ rfl (X1+1) v7 g7 rfl (G9.out.row _ (gQ GZ.out)) w5.heap.size x.frm x.til (by simp[go_sem]) y0' y1' Dx.out (by omega) ?_;intro v8 w8 eV dw O5;have H8:=jq (And.intro eV (And.intro dw O5));have n7:w7.heap.size<=w8.heap.size:=dw.size;clear eV dw O5)
      | (refine aWQ _ w7 rfl _ _ _ rfl (X1+1) X1 xs7 G9.out (Nat.lt_succ_self _) j7 (x.host,sn.data.toList) g7 (g7 ++ [⟨x.frm,x.til⟩]) v7 v8 GZ.out H8.out.2.1 H8.out.1 H8.out.2.2 rfl rfl rfl ?_;intro w9 P3 QD;have H9:=jq (And.intro P3 QD);clear P3 QD))
     go_roundw
     case rel=>
      have e9:Below X1 wm w9:=((TQ.out.trans (yJ.out.below (bQ _))).grown H8.out.2.1 (by omega) (λq hq=>by have:=(World.ownsRow.lt (G9.out.row _ (gQ GZ.out)) q hq).1;omega)).trans (H9.out.2.below (bQ _));refine⟨k+1,_,by omega,by go_num,by rw[H9.out.2.size];omega,jq e9,jq H9.out.1,jq ?_,Hq⟩;rw[HT.out];have hc:=ej.out;rw[<-iY.out] at hc
      have:=XO (v':=v8) HG.out hc
      rw[iY.out] at this;exact this
     case measure=>simp[intOf] <;> omega
   ·have f9:Hid (l.take k=l):=jq (kQ (by rw[da.out];omega));have pI:Hid (Np.GrpI (xs.map λx=>(x.1,x.2.1)) l):=jq (by have:=HG.out;rwa [f9.out] at this);have AH:Hid (∀ c∈l,Np.CopyOk jh c):=jq (by have:=bH.out;rwa [f9.out] at this);have k1:=ei.out.c1;clear HG bH f9 k0 k8;go_wp2_with (at_range;refine aWK _ rfl _ rfl (X1+1) X1 xs rfl HM.out ?_;intro w10 Qp Pb KF;have MY:=jq Qp;have Gk:=acZ bG Pb;clear Qp Pb);go_frame;obtain⟨I,hI⟩:=acJ wr.heap.size;rw[hI] at MY KF;rw[hI];have a1K:X1<I:=by omega
    have Mx:Hid (∀ x∈xs,x.2.1.length<=500/\∀ t∈x.2.1,t.frm<t.til):=jq (λx hx=>by
     have h1:=pI.out.each (x.1,x.2.1) (List.mem_map.2 ⟨x,hx,rfl⟩);simp only at h1;rw[h1];refine⟨?_,λt ht=>?_⟩
     ·unfold Np.gq;rw[List.length_map];refine yQ (List.length_filter_le _ _) ?_;rw[da.out];omega
     ·obtain⟨c,hc,rfl⟩:=List.mem_map.1 ht;exact (((jE.out c).1 (AH.out c (List.mem_filter.1 hc).1)).2.1).2.1)
    have oy:Hid ((l.Pairwise λc d=>¬ Np.kH c d)↔∀ x∈xs,x.2.1.Pairwise λa b=>¬ Np.oS a b):=jq (pI.out.ok.trans ⟨λh x hx=>h (x.1,x.2.1) (List.mem_map.2 ⟨x,hx,rfl⟩),λh y hy=>by
     obtain⟨x,hx,rfl⟩:=List.mem_map.1 hy;exact h x hx⟩)
    have aYY:=Gw;clear ei HM bG HB hI dK k1;go_loopw [] (λwq=>∃ (seen:Array Nat) (xs':List ga),I<wq.heap.size/\Hid (Below X1 wm wq)/\Hid (RangeX (X1+1) X1 I xs' seen wq)/\Hid (xs'.length=xs.length/\∀ (j:Nat) (x':ga),xs'[j]?=some x'->∃ x:ga,xs[j]?=some x/\x'.2.1.Perm x.2.1)/\Hid (∀ (j:Nat) (x:ga),seen.contains j=true->xs[j]?=some x->x.2.1.Pairwise λa b=>¬ Np.oS a b)) (λwq=>wq.rangeLeft X1 I)
    case atStart=>exact⟨#[],xs,by omega,Gk,MY,jq ⟨rfl,λj x hx=>⟨x,hx,List.Perm.refl _⟩⟩,jq (by simp)⟩
    case round=>
     obtain⟨seen,xs',Jb,iA,UW,DJ,MV⟩:=hrel;have TL:=jq (Gw.out.keep iA.out Jm);have k1:=TL.out.c1;go_wp2_with (at_next;refine aWJ _ rfl _ rfl (X1+1) X1 I xs' seen rfl UW.out (λmc=>?_) (λj p g v w11 hj Kd Fb J1 hen=>?_))
     ·have lz:Hid (l.Pairwise λc d=>¬ Np.kH c d):=jq (oy.out.2 λx hx=>by
       obtain⟨j,hj,rfl⟩:=nQ.1 hx;exact MV.out j _ (mc j (by rw[DJ.out.1];exact hj)) (aQ hj))
      have kJ:=acZ Gx iA.out;refine (SM _ l (by rw[da.out];omega) _ ((HD.out.keep mp kJ.out).more xX (by omega))).mono ?_;rintro e w13 ⟨v13,rfl,Cu,BR⟩;obtain⟨A13,c13,rfl⟩:=cF.form Cu;have ng:=acZ kJ BR;have JY:(Np.cj (l.map (·.zone.apex))).length<=500:=by
       have:=Np.tr (l.map (·.zone.apex))
       rw[List.length_map,da.out] at this;omega
      obtain⟨m13,Cp⟩:=acJ ((Np.cj (l.map (·.zone.apex))).length);rw[Cp] at JY |-;have d13:decide ((m13:Int)<=500)=true:=adK;clear Cu BR Cp;go_wp2_with fail;go_ret;exact⟨ag (by rw[<-HR.out];exact (Np.bh ⟨⟨⟨Gp.out,Np.fq.1 tR.out⟩,AH.out⟩,lz.out⟩).symm),ng.out⟩
     ·obtain⟨xj,KB,Ka⟩:=DJ.out.2 j _ hj;have hlg:g.length=xj.2.1.length:=Ka.length_eq;have Zj:=(Mx.out xj (gQ KB)).1;have MS:=jq Ka;have DN:=jq KB;have HJ:=jq hj;have H7:=jq Kd;have aZY:=jq Fb;have aZK:=jq J1;have a0K:I<w11.heap.size:=by rw[Fb.size];exact Jb
      have Gl:Hid (Below X1 wm w11):=jq (iA.out.trans (Fb.below (by omega)));refine (Sz _ Y4 (enters_of func122 (by kernel_rfl) rfl) (X1+1) v g w11 (H7.out.mapX.row _ (gQ (by exact HJ.out))) (by omega)).mono ?_;rintro e w12 ⟨rfl,ys,hp,uE,E0,zg⟩;have UQ:Hid (RangeX (X1+1) X1 I (xs'.set j (p,ys,v)) (seen.push j) w12):=jq (H7.out.changed (Nat.lt_succ_self _) HJ.out zg E0);have yF:Hid (Np.ID ys↔xj.2.1.Pairwise λa b=>¬ Np.oS a b):=jq (Np.aGQ (hp.trans MS.out) uE (Mx.out xj (gQ DN.out)).2);have MU:Hid (ys.Perm xj.2.1):=jq (hp.trans MS.out);have mo:∀ q,v.ownBlock=some q->X1+1<=q:=λq hq=>(World.ownsRow.lt (H7.out.mapX.row _ (gQ (by exact HJ.out))) q hq).1;have kc:Hid (Below X1 wm w12):=jq (Gl.out.grown zg (by omega) (λq hq=>by have:=mo q hq;omega));have ZH:w12.rangeLeft X1 I<wr.rangeLeft X1 I:=by
       have e:w12.rangeLeft X1 I=w11.rangeLeft X1 I:=RQ (zg.block X1 (by omega) (λe=>by have:=mo _ e.symm;omega)) (zg.block I (by omega) (λe=>by have:=Kd.row _ (gQ hj);exact this e.symm));rw[e];exact J1
      have acK:I<w12.heap.size:=by have:=zg.size;omega
      have M4:Hid (SlR cT 2 w12 w12.heap.size v ys):=jq (aJ.slr E0 (by have:=hp.length_eq;omega));have Ar:Hid (¬ Np.ID ys->r=false):=jq (λh=>by
       rw[<-HR.out];refine Np.aF λq=>h (yF.out.2 ?_);exact (oy.out.1 q.2) xj (gQ DN.out))
      have hy5:ys.length<=500:=by rw[MU.out.length_eq];exact Zj
      obtain⟨Av,cv,rfl⟩:=aJ.form E0;obtain⟨wo,rfl⟩:=acY wr;clear hp uE E0 zg Kd Fb J1 hen hj KB Ka mo k1;obtain⟨ny,sV⟩:=acJ ys.length;rw[sV] at hy5 M4;rw[sV];have MJ:=jq sV;clear sV;go_wp2_with fail;go_loopw [9] (λi wi=>∃ q:Nat,1<=q/\(q<=ny\/q=1)/\i = .int .i64 q/\Hid (Below w12.heap.size w12 wi)/\Hid (∀ t (h:t+1<ys.length),t+1<q->ys[t].til<=ys[t+1].frm)) (λi _=>ny - (intOf i).toNat)
      case atStart=>exact⟨1,bQ _,.inr rfl,rfl,jq (vQ _ _),jq (λt h h2=>by omega)⟩
      case round=>
       obtain⟨q,zr,gZ,rfl,cw,HQ⟩:=hrel;have uN:=cw.out.size;by_cases PX:q<ny
       ·obtain⟨m,hm⟩:∃ m,q=m+1:=⟨q - 1,by omega⟩;have sV:=MJ.out;have zl:m<ys.length:=by omega
        have Qn:q<ys.length:=by omega
        obtain⟨a,ha⟩:∃ a,ys[m]?=some a:=⟨_,aQ zl⟩;obtain⟨b,hb⟩:∃ b,ys[q]?=some b:=⟨_,aQ Qn⟩;have Dt:=M4.out.keep eE cw.out;obtain⟨bb,oo,rfl⟩:=tp (k:=m) Dt zl;obtain⟨bB,Jr⟩:=rM Dt ha;obtain⟨_,Js⟩:=rM Dt hb;have a0:=Jr.c0;have a1:=Jr.c1;have b0:=Js.c0;have b1:=Js.c1;have bE:IntKind.i64.wrap ((q:Int) - 1)=(m:Int):=by rw[show (q:Int) - 1=m by omega];simp[IntKind.wrap,IntKind.bits,IntKind.signed];omega
        have i1:(0:Int)<=(q:Int):=by omega
        have i2:(q:Int)<(ny:Int):=by omega
        have i3:(0:Int)<=(m:Int):=by omega
        have i4:(m:Int)<(ny:Int):=by omega
        have i5:m<ny:=by omega
        have eJ:Hid (b.frm<a.til->r=false):=jq (λab=>Ar.out λew=>by
         have h1:=ew m (by omega);obtain⟨e1,e2⟩:=cQ.1 ha;obtain⟨e3,e4⟩:=cQ.1 hb;subst hm;rw[e2,e4] at h1;omega)
        have Mh:Hid (¬ b.frm<a.til->∀ t (h:t+1<ys.length),t+1<q+1->ys[t].til<=ys[t+1].frm):=jq (λnP t h h2=>by
         by_cases e:t=m
         ·subst e;obtain⟨e1,e2⟩:=cQ.1 ha;obtain⟨e3,e4⟩:=cQ.1 hb;subst hm;rw[e2,e4];omega
         ·exact HQ.out t h (by omega))
        obtain⟨af,au⟩:=a;obtain⟨bf,bu⟩:=b;dsimp only at a0 a1 b0 b1 eJ Mh;clear ha hb Dt Jr Js hm sV zl Qn bB;by_cases sH:bf<au
        ·have dd:decide (bf<au)=true:=uQ sH;have HX:=jq (eJ.out sH);have kJ:=jq (Gx.out.trans ((kc.out.trans (cw.out.adZ)).adZ));clear sH;go_wp2_with fail;go_quiet (fail);go_wp2_with fail;go_ret;exact⟨ag HX.out.symm,below_drewN kJ.out _⟩
        ·have dd:decide (bf<au)=false:=tQ sH;have HX:=jq (Mh.out sH);clear sH;go_wp2_with fail;go_quiet (fail);go_wp2_with fail;go_roundw
         case rel=>exact⟨q+1,by omega,by omega,by go_num,jq (below_drewN cw.out _),HX⟩
         case measure=>simp[intOf] <;> omega
       ·have lz:Hid (xj.2.1.Pairwise λa b=>¬ Np.oS a b):=jq (yF.out.1 λt h=>HQ.out t h (by have:=MJ.out;omega));go_wp2_with fail;go_roundw
        case rel=>
         refine⟨seen.push j,_,by omega,acZ kc cw.out,jq (UQ.out.keep cw.out),jq ⟨by rw[List.length_set];exact DJ.out.1,λj' x' hx'=>?_⟩,jq λj' x hs hx=>?_⟩
         ·rw[List.getElem?_set] at hx';split at hx'
          ·rename_i e;subst e;rw[Qb (cQ.1 HJ.out).1] at hx'
           cases hx'
           exact⟨xj,DN.out,MU.out⟩
          ·exact DJ.out.2 j' x' hx'
         ·rw[Array.contains_push,Bool.or_eq_true] at hs;rcases hs with hs | hs
          ·exact MV.out j' x hs hx
          ·have e:j'=j:=by simpa using hs
           subst e
           have:=DN.out
           rw[this] at hx
           cases hx
           exact lz.out
        case measure=>
         have e:=RQ (w:=w12) (w':=wr) (r:=X1) (I:=I) (cw.out.block _ (by omega)) (cw.out.block _ (by omega));rw[e];exact ZH
end
section
open Go.RowKit Go.Sort Go.Shelf
theorem XL{W w':World}(h:D.Below W.heap.size W w'):∃ q os,w'=grow (W.drewN q) os:=by
 refine⟨w'.drawn - W.drawn,w'.heap.extract W.heap.size w'.heap.size,?_⟩;have hh:w'.heap=W.heap++w'.heap.extract W.heap.size w'.heap.size:=by
  apply Array.ext_getElem?;intro j;rcases Nat.lt_or_ge j W.heap.size with h1 | h1
  ·rw[Array.getElem?_append_left h1];exact h.block j h1
  ·rw[Array.getElem?_append_right h1,Array.getElem?_extract];split
   ·congr 1;omega
   ·rw[Array.getElem?_eq_none (by omega)]
 have hd:w'.drawn=W.drawn+(w'.drawn - W.drawn):=by have:=h.drawn;omega
 have h1:=h.os;have h2:=h.tape;have h3:=h.output
 cases w'
 cases W
 simp only[grow,World.drewN,World.mk.injEq] at *;exact⟨hh,h2,hd,h1,h3⟩
abbrev VN:={ x:List UInt8 // Np.aD x=true }
instance:Inhabited VN:=⟨⟨[46],by decide⟩⟩
def rk(x:VN):Value:=aA x.1
def lH(x y:VN):Int:=Np.aL x.1 y.1
theorem aOZ:SWO (ltOf lH) where
 irrefl x:=by unfold ltOf lH;rw[Np.fW.self];rfl
 trans x y z h1 h2:=by
  unfold ltOf lH at *;simp only[Qa] at *;exact Np.fW.trans _ _ _ h1 h2
 ntrans x y z h1 h2:=by
  unfold ltOf lH at *;simp only[decide_eq_false_iff_not] at *;intro h3;rcases Int.lt_trichotomy (Np.aL x.1 y.1) 0 with h4 | h4 | h4
  ·exact h1 h4
  ·have:=Np.fW.zero _ _ h4;rw[this] at h3;exact h2 h3
  ·have:=Np.fW.trans _ _ _ (Np.fW.anti' _ _ h4) h3
   exact h2 this
theorem aOX(x y:VN)(h1:ltOf lH x y=false)(h2:ltOf lH y x=false):x=y:=by
 unfold ltOf lH at *;simp only[decide_eq_false_iff_not] at *;apply Subtype.ext;rcases Int.lt_trichotomy (Np.aL x.1 y.1) 0 with h4 | h4 | h4
 ·exact absurd h4 h1
 ·exact Np.fW.zero _ _ h4
 ·exact absurd (Np.fW.anti' _ _ h4) h2
theorem SB{x:List UInt8}(h:Np.aD x=true):(⟨x.toArray⟩:ByteArray).size<=140737488355328:=by
 have:=rP h
 have e:(⟨x.toArray⟩:ByteArray).size=x.length:=by rw[<-bn]
 omega
theorem aYZ(x y:VN)(w:World) :
 Calls prog 136 #[rk x,rk y] w λe w'=>e = .returned (.int .i64 (lH x y))/\D.Below w.heap.size w w':=by
 have hc:=D.compare_any ⟨x.1.toArray⟩ ⟨y.1.toArray⟩ (SB x.2) (SB y.2) w;have e1:(⟨x.1.toArray⟩:ByteArray).data.toList=x.1:=rfl;have e2:(⟨y.1.toArray⟩:ByteArray).data.toList=y.1:=rfl;have e3:D.cmpVal x.1 y.1 = .tuple #[.int .i64 (lH x y),.int .i64 0]:=by unfold D.cmpVal;rw[x.2,y.2];rfl
 rw[e1,e2,e3] at hc;have HC:=jq hc;clear hc e1 e2 e3;unfold rk aA;generalize lH x y=z at HC |-;go_enter func136,ntmps136;go_wp2_with (go_at_call 137;refine HC.out.mono ?_;rintro e w2 ⟨rfl,ac⟩;have ai:=jq ac;clear ac);go_ret;exact⟨rfl,ai.out⟩
theorem YK(enc:VN->Value){w:World}{g n:Nat}{os:Array Obj}{cur:Array Value}{e:TypeId}{fr:Nat×Nat}(d:Array VN)(hb:w.heap[g]?=some (.cells cur e fr)) :
 (sortWorld enc w g 0 n d os).heap[g]?=some (.cells (putCells enc 0 d cur) e fr):=by
 have hl:g<w.heap.size:=(eQ.1 hb).1;unfold sortWorld;rw[heap_grow_old _ _ (by simpa [putRow,mapBlock,Sort.ahead] using hl)];simp[putRow,mapBlock,Sort.ahead,Array.getElem?_modify,hb,onCells]
theorem XM(enc:VN->Value){w:World}{g n:Nat}{os:Array Obj}(d:Array VN):w.grownBy (sortWorld enc w g 0 n d os) (some g):=by
 unfold sortWorld;refine⟨rfl,rfl,rfl,by simp,λq hq hne=>?_⟩;rw[heap_grow_old _ _ (by simpa using hq)]
 have:g≠q:=λe=>hne (by rw[e])
 simp[putRow,mapBlock,Sort.ahead,Array.getElem?_modify,this]
theorem aLX(base:Nat)(v:Value)(xs:List (List UInt8))(w:World)(hown:cF base w v xs)(hv:∀ x∈xs,Np.aD x=true)(hl:xs.length<=100000) :
 Calls prog 135 #[v,.func (.func 136) #[] #[]] w λe w'=>e = .returned (.tuple #[])/\cF base w' v (Np.uW xs)/\w.grownBy w' v.ownBlock:=by
 obtain⟨ys,CQ⟩:∃ ys:List VN,ys.map (·.1)=xs:=⟨xs.pmap (λx h=>⟨x,h⟩) hv,by rw[List.map_pmap];simp⟩;subst CQ;have hs:Np.uW (ys.map (·.1))=(ys.mergeSort λx y=>!(ltOf lH) y x).map (·.1):=by
  unfold Np.uW;exact (List.map_mergeSort (r:=λx y:VN=>!(ltOf lH) y x) (s:=λa b=>!decide (Np.aL b a<0)) (f:=λx:VN=>x.1) (l:=ys) (λa _ b _=>rfl)).symm
 have qm:w.ownsRow base 9 1 v (ys.map (·.1)).length ((ys.map (·.1)).map aA):=hown;rw[List.length_map] at qm hl;rcases qm.2 with ⟨rfl,h0⟩ | ⟨g,cap,cur,rfl,fh,hb,h1,h2,h3,h4⟩
 ·have:ys = []:=rQ h0
  subst this;refine (Tryz.slices_SortFunc_none (α:=VN) none 0 _ w).mono ?_;intro e w' hh;obtain⟨rfl,rfl⟩:=hh;exact⟨rfl,by rw[hs];simpa using hown,⟨rfl,rfl,rfl,bQ _,λ_ _ _=>rfl⟩⟩
 have eg:∀ args w,(callFunc 136 args).run prog w = .ok (.enter 136 args) w:=enters_of func136 (by kernel_rfl) rfl;have hH:Holds rk w g 0 ys.toArray:=λj hj=>by
  have hj':j<ys.length:=by simpa using hj
  refine⟨?_,by simp[World.frozen?,hb]⟩
  have:=qm.cellAt j (by omega)
  rw[Nat.zero_add,this,List.getElem?_map,List.getElem?_map,aQ hj',getElem!_pos ys.toArray j hj];simp[rk]
 have BY:CmpLays1 prog 136 #[] rk lH g 0 ys.toArray.size w:=λm os dk _ x y=>(aYZ x y _).mono λe w' ⟨he,hw⟩=>⟨he,XL hw⟩;have EP:=Tryz.slices_SortFunc_total rk (λ_=>rfl) lH aOZ 136 #[] g 0 cap ys.toArray w eg BY hH (eQ.1 hb).1 (by simp;omega) aOX;have hlen:(ys.mergeSort λx y=>!(ltOf lH) y x).length=ys.length:=List.length_mergeSort _;rw[List.size_toArray] at EP;refine EP.mono λe w' ⟨he,n,os,hw⟩=>⟨he,?_,?_⟩
 ·subst hw;rw[hs];unfold cF;rw[List.length_map,hlen];refine⟨by simp,.inr ⟨g,cap,_,rfl,fh,YK rk _ hb,h1,h2,by simp[putCells,h3],?_⟩⟩;apply List.ext_getElem?;intro j;by_cases hj:j<ys.length
  ·have un:j<cur.size:=by omega
   have wV:j<(ys.mergeSort λx y=>!(ltOf lH) y x).length:=by omega
   rw[List.getElem?_take_of_lt (by omega),Array.getElem?_toList,List.getElem?_map,List.getElem?_map,aQ wV];simp[putCells,un,hj,rk]
  ·rw[List.getElem?_take_eq_none (by omega),List.getElem?_eq_none (by simp;omega)]
 ·subst hw;exact XM rk _
def gC(W:World)(B:Nat)(e:List Value)(h:Np.Hist):Prop:=∃ (hv cv:Value) (s:ByteArray) (dv dU:Value),e = [hv,cv,.string s,.int .i64 h.anchor.type,.int .i64 h.anchor.life,dv,dU,.int .i64 h.drift,.int .i64 h.stop]/\s.data.toList=h.anchor.name/\s.size<=140737488355328/\
 SlR kS 3 W B hv h.hosts/\SlR my 5 W B cv h.copies/\SlR bR 3 W B dv h.anchor.data/\SlR lF 1 W B dU h.hints
theorem mX:ep gC:=λ_ _ _ _ _ ⟨hv,cv,s,dv,dU,h0,h1,h2,h3,h4,h5,h6⟩ hb=>⟨hv,cv,s,dv,dU,h0,h1,h2,h3.keep oh hb,h4.keep mp hb,h5.keep bV hb,h6.keep qy hb⟩
theorem pu:eL gC:=λ_ _ _ _ _ ⟨hv,cv,s,dv,dU,h0,h1,h2,h3,h4,h5,h6⟩ hb=>⟨hv,cv,s,dv,dU,h0,h1,h2,h3.more x7 hb,h4.more xX hb,h5.more cu hb,h6.more x8 hb⟩
def Np.yf(h:Np.Hist):Prop:=h.copies.length<=500/\∀ c∈h.copies,c.zone.sets.length<=20000
theorem NO{h:Np.Hist}(v:Np.VHist h):∀ x∈Np.cj (h.copies.map (·.zone.apex)),Np.aD x=true:=λx hx=>by
 obtain⟨c,hc,rfl⟩:=List.mem_map.1 (Np.th.1 hx);have h1:=(v.each c hc).zone.right;unfold Np.fK at h1;simp only[Bool.and_eq_true] at h1;exact h1.1.1
theorem aYJ(e:List Value)(h:Np.Hist)(hf:Np.yf h)(w:World)(hR:jo w w.heap.size)(hh:gC w w.heap.size e h) :
 Calls prog 60 #[.agg e.toArray] w λe w'=>((Np.VHist h/\∃ v',e = .returned (.tuple #[v',.int .i64 0])/\cF w.heap.size w' v' (Np.apexes h.copies))\/(¬ Np.VHist h/\e = .returned (.tuple #[.slice none 0 0,.int .i64 1])))/\Below w.heap.size w w':=by
 obtain⟨hv,cv,s,dv,dU,rfl,h1,h2,h3,h4,h5,h6⟩:=hh;obtain⟨hosts,copies,⟨name,ty,life,data⟩,hints,drift,stop⟩:=h;dsimp only at h1 h3 h4 h5 h6;subst h1;have H3:=jq h3;have H4:=jq h4;have H5:=jq h5;have H6:=jq h6;have gz:=jq hR;have pG:=jq hf;obtain⟨A1,c1,rfl,_,_⟩:=ak h3;obtain⟨A2,c2,rfl,_,_⟩:=ak h4;obtain⟨A3,c3,rfl,_,_⟩:=ak h5;obtain⟨A4,c4,rfl,_,_⟩:=ak h6;clear h3 h4 h5 h6 hR hf;obtain⟨r,hr⟩:=acJ (Np.yes (Np.VHist ⟨hosts,copies,⟨s.data.toList,ty,life,data⟩,hints,drift,stop⟩));have pU:=jq hr;obtain⟨n1,bP⟩:=acJ hosts.length;obtain⟨n2,cr⟩:=acJ copies.length;obtain⟨n3,eu⟩:=acJ data.length;obtain⟨n4,eP⟩:=acJ hints.length;rw[bP] at H3 |-;rw[cr] at H4 |-;rw[eu] at H5 |-;rw[eP] at H6 |-;clear hr bP cr eu eP;obtain⟨X,hX⟩:=acJ w.heap.size;have kN:=jq hX;obtain⟨W1,am⟩:=acJ (w.alloc (.cells #[.slice A1 n1 c1,.slice A2 n2 c2,.string s,.int .i64 ty,.int .i64 life,.slice A3 n3 c3,.slice A4 n4 c4,.int .i64 drift,.int .i64 stop] 29));have aI:Below w.heap.size w W1:=by rw[<-am];exact (vQ _ _).alloc (bQ _) _
 have iS:W1.heap.size=w.heap.size+1:=by rw[<-am];simp
 have k0:W1.cell? ⟨X,0,none⟩=some (.slice A1 n1 c1):=by rw[<-am,<-hX];simp[go_sem]
 have k1:W1.cell? ⟨X,1,none⟩=some (.slice A2 n2 c2):=by rw[<-am,<-hX];simp[go_sem]
 have k2:W1.cell? ⟨X,2,none⟩=some (.string s):=by rw[<-am,<-hX];simp[go_sem]
 have k3:W1.cell? ⟨X,3,none⟩=some (.int .i64 ty):=by rw[<-am,<-hX];simp[go_sem]
 have k4:W1.cell? ⟨X,4,none⟩=some (.int .i64 life):=by rw[<-am,<-hX];simp[go_sem]
 have k5:W1.cell? ⟨X,5,none⟩=some (.slice A3 n3 c3):=by rw[<-am,<-hX];simp[go_sem]
 have k6:W1.cell? ⟨X,6,none⟩=some (.slice A4 n4 c4):=by rw[<-am,<-hX];simp[go_sem]
 have k7:W1.cell? ⟨X,7,none⟩=some (.int .i64 drift):=by rw[<-am,<-hX];simp[go_sem]
 have k8:W1.cell? ⟨X,8,none⟩=some (.int .i64 stop):=by rw[<-am,<-hX];simp[go_sem]
 rw[hX] at aI iS H3 H4 H5 H6 gz |-;have aV:=jq aI;clear aI;go_enter func60,ntmps60;go_wp2_with fail;refine (PM _ hosts _ copies s h2 ty life _ data _ hints drift stop pG.out.1 pG.out.2 _ ((gz.out.keep aV.out).more (by omega)) ((H3.out.keep oh aV.out).more x7 (by omega)) ((H4.out.keep mp aV.out).more xX (by omega)) ((H5.out.keep bV aV.out).more cu (by omega)) ((H6.out.keep qy aV.out).more x8 (by omega))).mono ?_;rintro e w2 ⟨rfl,ac⟩;have aN:=ac.size;have m1:w2.cell? ⟨X,1,none⟩=some (.slice A2 n2 c2):=aaJ ac k1;have ai:=acZ aV ac;clear ac am k0 k1 k2 k3 k4 k5 k6 k7 k8 hX;rw[pU.out]
 cases r with
 | false=>
  have HN:Hid (¬ Np.VHist ⟨hosts,copies,⟨s.data.toList,ty,life,data⟩,hints,drift,stop⟩):=jq (λh=>by have:=Np.bh h;rw[pU.out] at this;cases this);go_wp2_with fail;go_ret2;exact⟨.inr ⟨HN.out,rfl⟩,ai.out⟩
 | true=>
  have HV:Hid (Np.VHist ⟨hosts,copies,⟨s.data.toList,ty,life,data⟩,hints,drift,stop⟩):=jq (Np.fq.1 pU.out);have qM:Hid (copies.length<=500):=jq pG.out.1;go_wp2_with fail;refine (SM _ copies (by have:=qM.out;omega) _ ((H4.out.keep mp ai.out).more xX (by omega))).mono ?_;rintro e w3 ⟨v3,rfl,mM,aq⟩;have eR:=aq.size;have iD:=jq mM;have ar:=acZ ai aq;clear mM aq;go_wp2_with fail;refine (aLX w2.heap.size _ _ _ iD.out (NO HV.out) (by have:=Np.tr (copies.map (·.zone.apex));rw[List.length_map] at this;have:=qM.out;omega)).mono ?_;rintro e w4 ⟨rfl,sW,PC⟩;have H4':=jq (And.intro (cF.weak sW (show X<=w2.heap.size by omega)) (ar.out.grown PC (by omega) (λq hq=>by have:=(World.ownsRow.lt iD.out q hq).1;omega)));clear sW PC;go_wp2_with fail;go_ret2;exact⟨.inl ⟨HV.out,_,rfl,H4'.out.1⟩,H4'.out.2⟩
end
section
open Go.RowKit

def IC(W:World)(B:Nat)(e:List Value)(x:Np.WorldP):Prop:=∃ (hv zv:Value) (s:ByteArray) (dv dU:Value),e = [hv,zv,.string s,.int .i64 x.anchor.type,.int .i64 x.anchor.life,dv,dU]/\s.data.toList=x.anchor.name/\s.size<=140737488355328/\
 SlR kS 3 W B hv x.hosts/\SlR vZ 3 W B zv x.zones/\SlR bR 3 W B dv x.anchor.data/\SlR lF 1 W B dU x.hints
theorem aIX:ep IC:=λ_ _ _ _ _ ⟨hv,cv,s,dv,dU,h0,h1,h2,h3,h4,h5,h6⟩ hb=>⟨hv,cv,s,dv,dU,h0,h1,h2,h3.keep oh hb,h4.keep FN hb,h5.keep bV hb,h6.keep qy hb⟩
theorem aIY:eL IC:=λ_ _ _ _ _ ⟨hv,cv,s,dv,dU,h0,h1,h2,h3,h4,h5,h6⟩ hb=>⟨hv,cv,s,dv,dU,h0,h1,h2,h3.more x7 hb,h4.more Ld hb,h5.more cu hb,h6.more x8 hb⟩
end
section
open Go.RowKit Go.Shelf
theorem aoX{ps:List Np.Span}{s:Np.Span}(hp:Np.pC ps)(hs:s.frm<s.til):Np.bT (Np.bT ps ++ [s])=Np.bT (ps ++ [s]):=by
 obtain⟨h1,h2⟩:=Np.xS hp;refine Np.Rp (λx hx=>?_) (λx hx=>?_) λt=>?_
 ·rcases List.mem_append.1 hx with hx | hx
  ·exact h1.full x hx
  ·rw[List.mem_singleton] at hx;subst hx;exact hs
 ·rcases List.mem_append.1 hx with hx | hx
  ·exact hp x hx
  ·rw[List.mem_singleton] at hx;subst hx;exact hs
 ·rw[Np.zz,Np.zz,h2]
theorem Sw{W:World}{b:Nat}{f u:Int}(hb:b<W.heap.size)(c0:W.cell? ⟨b,0,none⟩=some (.int .i64 f))(c1:W.cell? ⟨b,1,none⟩=some (.int .i64 u)):SlR cT 2 W W.heap.size (.slice (some ⟨b,0,none⟩) 1 1) [⟨f,u⟩]:=by
 refine⟨some ⟨b,0,none⟩,1,rfl,by simp,by simp,λi x hx=>?_⟩
 match i,hx with
 | 0,hx=>
  simp at hx;subst hx;refine⟨b,0,[.int .i64 f,.int .i64 u],rfl,hb,rfl,λj v hj=>?_,rfl⟩
  match j,hj with
  | 0,hj=>simp at hj;subst hj;exact c0
  | 1,hj=>simp at hj;subst hj;exact c1
  | j+2,hj=>simp at hj
 | i+1,hx=>simp at hx
end
section
open Go.RowKit
theorem PL(e:List Value)(h:Np.Hist)(hf:Np.yf h)(w:World)(hR:jo w w.heap.size)(hh:gC w w.heap.size e h) :
 Calls prog 56 #[.agg e.toArray] w (a0X w.heap.size w (.bool (Np.yes (Np.VHist h)))):=by
 obtain⟨hv,cv,s,dv,dU,rfl,h1,h2,h3,h4,h5,h6⟩:=hh;obtain⟨hosts,copies,⟨name,ty,life,data⟩,hints,drift,stop⟩:=h;dsimp only at h1 h3 h4 h5 h6;subst h1;exact PM _ hosts _ copies s h2 ty life _ data _ hints drift stop hf.1 hf.2 _ hR h3 h4 h5 h6
end
section
open Go.RowKit Go.Shelf
attribute [local go_sem] Oper.semAt_some
attribute [local go_sem] CV.cells
theorem aJ.formN{base n:Nat}{w:World}{v:Value}{ps:List Np.Span}(h:aJ base w v ps)(hn:ps.length=n):∃ A c,v = .slice A n c:=by subst hn;exact h.form
end
end Go.Proofs.YtfnopgdcaanaiaaGreatDoor
