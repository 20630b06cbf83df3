/- Parts of the proof. No condition. -/
import Derived.Test.YtfnopgdcaanaiaaGreatDoorH21
import Derived.Test.YtfnopgdcaanaiaaGreatDoorH22
set_option linter.all false
set_option maxRecDepth 100000
set_option maxHeartbeats 8000000
namespace Go.Proofs.YtfnopgdcaanaiaaGreatDoor
open Go.Proofs.Tryz
section
open Go.RowKit Go.MapKept Go.Shelf Go.Sort
theorem Uc(f u f' u':Int)(w:World) :
 Calls prog 122 #[.agg #[.int .i64 f,.int .i64 u],.agg #[.int .i64 f',.int .i64 u']] w λe w'=>e = .returned (.int .i64 (Np.bX f f'))/\∃ q os,w'=grow (w.drewN q) os:=by
 go_enter func122,ntmps122;go_wp2_with (go_at_call 123;refine (xH _ _ _).mono ?_;rintro e w' ⟨rfl,rfl⟩);go_ret;exact⟨rfl,0,_,by rw[alloc_eq_grow,alloc_eq_grow,grow_grow];rfl⟩
def Np.qF(h:Np.Hist):Prop:=(1<=h.stop/\h.stop<=10000000)/\(0<=h.drift/\h.drift<=1000)
theorem ZH{h:Np.Hist} : Np.VHist h↔((Np.qF h/\Np.VWorld ⟨h.hosts,[],h.anchor,h.hints⟩)/\∀ c∈h.copies,Np.CopyOk h c)/\h.copies.Pairwise λc d=>¬ Np.jf c d:=
 ⟨λv=>⟨⟨⟨⟨v.stop,v.drift⟩,v.hosts,v.root,λp hp=>(by cases hp),List.Pairwise.nil⟩,v.each⟩,v.apart⟩,λv=>⟨v.1.1.1.1,v.1.1.1.2,v.1.1.2.hosts,v.1.1.2.root,v.1.2,v.2⟩⟩
structure oW(W:World)(X:Nat)(hv cv:Value)(stop:Int):Prop where
 c0:W.cell? ⟨X,0,none⟩=some hv
 c1:W.cell? ⟨X,1,none⟩=some cv
 c8:W.cell? ⟨X,8,none⟩=some (.int .i64 stop)
 lt:X<W.heap.size
theorem oW.keep{W W':World}{X B:Nat}{hv cv:Value}{stop:Int}(h:oW W X hv cv stop)(hb:Below B W W')(hB:X<B):oW W' X hv cv stop:=⟨(hb.cell hB).trans h.c0,(hb.cell hB).trans h.c1,(hb.cell hB).trans h.c8,lQ h.lt hb.size⟩
theorem oW.turned{W W':World}{X r:Nat}{hv cv:Value}{stop:Int}(h:oW W X hv cv stop)(ht:Turned r W W')(hr:X≠r):oW W' X hv cv stop:=⟨(ht.cell hr).trans h.c0,(ht.cell hr).trans h.c1,(ht.cell hr).trans h.c8,by rw[ht.size];exact h.lt⟩
theorem SQ{xs xs6:List eC}{l:List Np.Copy}{c:Np.Copy}{j:Nat}{g:List Np.Span}{v v':Value}(h:Np.GrpI (xs.map λx=>(x.1,x.2.1)) l)(hc:(xs6=xs/\xs[j]?=some (Np.fp c,g,v))\/(Np.fp c∉xs.map (·.1)/\xs6=xs ++ [(Np.fp c,[],.slice none 0 0)]/\j=xs.length/\g = []/\v = .slice none 0 0)):Np.GrpI ((xs6.set j (Np.fp c,g ++ [Np.jd c],v')).map λx=>(x.1,x.2.1)) (l ++ [c]):=by
 rcases hc with ⟨rfl,hj⟩ | ⟨hn,rfl,rfl,rfl,rfl⟩
 ·rw[List.map_set];exact h.old (by rw[List.getElem?_map,hj];rfl)
 ·rw[List.set_append_right _ _ (bQ _),Nat.sub_self,List.set_cons_zero,List.map_append];exact h.new (by rw[List.map_map];exact hn)
theorem KP(hv:Value)(hs:List Np.Host)(cv:Value)(l:List Np.Copy)(s:ByteArray)(an:s.size<=140737488355328)(ty life:Int)(dv:Value)(d:List Np.Datum)(cN:Value)(hints:List Int)(drift stop:Int)(hl:l.length<=500)(hz:∀ p∈l,p.zone.sets.length<=20000)(w:World)(hR:iH w w.heap.size)
 (hh:SlR iG 3 w w.heap.size hv hs) (hd:SlR fU 5 w w.heap.size cv l) (hdd:SlR bn 3 w w.heap.size dv d) (nC:SlR jn 1 w w.heap.size cN hints) :
 Calls prog 56 #[.agg #[hv,cv,.string s,.int .i64 ty,.int .i64 life,dv,cN,.int .i64 drift,.int .i64 stop]] w λe w'=>e = .returned (.bool (Np.yes (Np.VHist ⟨hs,l,⟨s.data.toList,ty,life,d⟩,hints,drift,stop⟩)))/\Below w.heap.size w w':=by
 obtain⟨r,hr⟩:∃ r,Np.yes (Np.VHist ⟨hs,l,⟨s.data.toList,ty,life,d⟩,hints,drift,stop⟩)=r:=⟨_,rfl⟩;obtain⟨gI,pE⟩:∃ h:Np.Hist,(⟨hs,l,⟨s.data.toList,ty,life,d⟩,hints,drift,stop⟩:Np.Hist)=h:=⟨_,rfl⟩;rw[hr];have HR:Hid (Np.yes (((Np.qF gI/\Np.VWorld ⟨hs,[],⟨s.data.toList,ty,life,d⟩,hints⟩)/\∀ c∈l,Np.CopyOk gI c)/\l.Pairwise λc d=>¬ Np.jf c d)=r):=jq (by rw[<-hr,<-pE];exact (Np.ql (ZH (h:=⟨hs,l,⟨s.data.toList,ty,life,d⟩,hints,drift,stop⟩))).symm);have fI:Hid (Np.qF gI↔(1<=stop/\stop<=10000000)/\(0<=drift/\drift<=1000)):=jq (by rw[<-pE];exact Iff.rfl);have ic:Hid (∀ c,Np.CopyOk gI c↔(0<=c.host/\c.host<hs.length)/\(0<=c.frm/\c.frm<c.til/\c.til<=stop)/\Np.VZone c.zone):=jq (λc=>by rw[<-pE];exact⟨λh=>⟨h.host,h.times,h.zone⟩,λh=>⟨h.1,h.2.1,h.2.2⟩⟩);have HH:=jq hh;have HD:=jq hd;have jL:=jq hdd;have nW:=jq nC;have gv:=jq hR;have HZ:=jq hz;obtain⟨A1,c1,rfl,_,_⟩:=al hh;obtain⟨A2,c2,rfl,_,_⟩:=al hd;obtain⟨A3,c3,rfl,_,_⟩:=al hdd;obtain⟨A4,c4,rfl,_,_⟩:=al nC;clear hr pE hd hR hh hdd nC hz;obtain⟨n1,bl⟩:∃ n,hs.length=n:=⟨_,rfl⟩;obtain⟨n2,bP⟩:∃ n,l.length=n:=⟨_,rfl⟩;obtain⟨n3,dW⟩:∃ n,d.length=n:=⟨_,rfl⟩;obtain⟨n4,eT⟩:∃ n,hints.length=n:=⟨_,rfl⟩;rw[bl] at HH ic |-;rw[bP] at HD hl |-;rw[dW] at jL |-;rw[eT] at nW |-;have HN:=jq (And.intro bl (And.intro bP (And.intro dW eT)));clear bl bP dW eT;obtain⟨W1,ap⟩:∃ W1,w.alloc (.cells #[.slice A1 n1 c1,.slice A2 n2 c2,.string s,.int .i64 ty,.int .i64 life,.slice A3 n3 c3,.slice A4 n4 c4,.int .i64 drift,.int .i64 stop] 29)=W1:=⟨_,rfl⟩;have aG:Below w.heap.size w W1:=by rw[<-ap];exact (vQ _ _).alloc (bQ _) _
 have kJ:W1.heap.size=w.heap.size+1:=by rw[<-ap];simp
 obtain⟨X,hX⟩:∃ X,w.heap.size=X:=⟨_,rfl⟩;have jS:=jq hX;have k0:W1.cell? ⟨X,0,none⟩=some (.slice A1 n1 c1):=by rw[<-ap,<-hX];simp[go_sem]
 have k1:W1.cell? ⟨X,1,none⟩=some (.slice A2 n2 c2):=by rw[<-ap,<-hX];simp[go_sem]
 have k2:W1.cell? ⟨X,2,none⟩=some (.string s):=by rw[<-ap,<-hX];simp[go_sem]
 have k3:W1.cell? ⟨X,3,none⟩=some (.int .i64 ty):=by rw[<-ap,<-hX];simp[go_sem]
 have k4:W1.cell? ⟨X,4,none⟩=some (.int .i64 life):=by rw[<-ap,<-hX];simp[go_sem]
 have k5:W1.cell? ⟨X,5,none⟩=some (.slice A3 n3 c3):=by rw[<-ap,<-hX];simp[go_sem]
 have k6:W1.cell? ⟨X,6,none⟩=some (.slice A4 n4 c4):=by rw[<-ap,<-hX];simp[go_sem]
 have k7:W1.cell? ⟨X,7,none⟩=some (.int .i64 drift):=by rw[<-ap,<-hX];simp[go_sem]
 have k8:W1.cell? ⟨X,8,none⟩=some (.int .i64 stop):=by rw[<-ap,<-hX];simp[go_sem]
 rw[hX] at aG kJ HH HD jL nW gv;rw[hX];have aP:=jq aG;clear aG;go_enter func56,ntmps56;by_cases g1:stop<1
 ·have dg1:decide (stop<1)=true:=uQ g1;have HX:Hid (r=false):=jq (by rw[<-HR.out];exact Np.aF λq=>by have:=fI.out.1 q.1.1.1;omega);clear g1;go_wp2_with fail;go_ret;exact⟨ae HX.out.symm,aP.out⟩
 have dg1:decide (stop<1)=false:=tQ g1;by_cases g2:10000000<stop
 ·have dg2:decide (10000000<stop)=true:=uQ g2;have HX:Hid (r=false):=jq (by rw[<-HR.out];exact Np.aF λq=>by have:=fI.out.1 q.1.1.1;omega);clear g2;go_wp2_with fail;go_ret;exact⟨ae HX.out.symm,aP.out⟩
 have dg2:decide (10000000<stop)=false:=tQ g2;by_cases g3:drift<0
 ·have dg3:decide (drift<0)=true:=uQ g3;have HX:Hid (r=false):=jq (by rw[<-HR.out];exact Np.aF λq=>by have:=fI.out.1 q.1.1.1;omega);clear g3;go_wp2_with fail;go_ret;exact⟨ae HX.out.symm,aP.out⟩
 have dg3:decide (drift<0)=false:=tQ g3;by_cases g4:1000<drift
 ·have dg4:decide (1000<drift)=true:=uQ g4;have HX:Hid (r=false):=jq (by rw[<-HR.out];exact Np.aF λq=>by have:=fI.out.1 q.1.1.1;omega);clear g4;go_wp2_with fail;go_ret;exact⟨ae HX.out.symm,aP.out⟩
 have dg4:decide (1000<drift)=false:=tQ g4;have d5:decide (4000<(n2:Int))=false:=tQ (by omega);have CZ:Hid (Np.qF gI):=jq (fI.out.2 (by omega));clear g1 g2 g3 g4;go_wp2_with fail;refine (ZP _ hs _ [] s an ty life _ d _ hints (by simp) (by simp) _ ((gv.out.keep aP.out).more (by omega)) ((HH.out.keep mI aP.out).more vJ (by omega)) ⟨none,0,rfl,by simp,by simp,λi x hx=>by simp at hx⟩ ((jL.out.keep de aP.out).more eN (by omega)) ((nW.out.keep oP aP.out).more vK (by omega))).mono ?_;rintro e w2 ⟨rfl,ac⟩;have aJ:=ac.size;have zN:Hid (oW w2 X (.slice A1 n1 c1) (.slice A2 n2 c2) stop):=jq (oW.keep ⟨k0,k1,k8,by omega⟩ ac (by omega));have aj:=jq (aP.out.trans (ac.mono (by omega)));clear ac ap k0 k1 k2 k3 k4 k5 k6 k7 k8;have k0:=zN.out.c0;have k1:=zN.out.c1;have Kd:=zN.out.lt;obtain⟨b1,az⟩:∃ b1,Np.yes (Np.VWorld ⟨hs,[],⟨s.data.toList,ty,life,d⟩,hints⟩)=b1:=⟨_,rfl⟩;rw[az];have qE:=jq az;clear az;have nF:∀ (w:World),(Instr.makeMap 184 none).run prog w = .ok (.map (some w.heap.size)) (w.alloc (.map #[] 0)):=λw=>by
  simp[Instr.makeMap,Result.andThen]
 cases b1 with
 | false=>
  have HX:Hid (r=false):=jq (by rw[<-HR.out];exact Np.aF λq=>by have:=Np.bB q.1.1.2;rw[qE.out] at this;cases this);go_wp2_with fail;go_ret;exact⟨ae HX.out.symm,aj.out⟩
 | true=>
  go_wp2_with fail;obtain⟨wm,zb⟩:∃ wm,w2.alloc (.map #[] 0)=wm:=⟨_,rfl⟩;obtain⟨X1,nu⟩:∃ X1,w2.heap.size=X1:=⟨_,rfl⟩;have so:Hid (MapX (X1+1) X1 [] wm):=jq (by rw[<-zb,<-nu];exact MapX.made _ _);have hzm:wm.heap.size=X1+1:=by rw[<-zb,<-nu];simp
  have qS:Below X1 w2 wm:=by rw[<-zb,<-nu];exact (vQ _ _).alloc (bQ _) _
  have EZ:X<X1:=by omega
  have C5:Hid (oW wm X (.slice A1 n1 c1) (.slice A2 n2 c2) stop):=jq (zN.out.keep qS EZ);have C6:=jq (aj.out.trans (qS.mono (by omega)));rw[zb,nu];clear zb nu qS k0 k1;have fJ:Hid (l.length=n2):=jq HN.out.2.1;go_loopw [47] (λi wr=>∃ (k:Nat) (xs:List eC),k<=n2/\i = .int .i64 k/\X1<wr.heap.size/\Hid (Below X1 wm wr)/\Hid (MapX (X1+1) X1 xs wr)/\Hid (Np.GrpI (xs.map λx=>(x.1,x.2.1)) (l.take k))/\Hid (∀ c∈l.take k,Np.CopyOk gI c)) (λi _=>n2 - (intOf i).toNat)
  case atStart=>exact⟨0,[],jQ _,rfl,by omega,jq (vQ _ _),so,jq Np.GrpI.nil,jq (by simp)⟩
  case round=>
   obtain⟨k,xs,hk,rfl,cZ,bD,HM,HG,bk⟩:=hrel;have HB:=jq (C6.out.trans (bD.out.mono (by omega)));have gq:=jq (C5.out.keep bD.out EZ);have k0:=gq.out.c0;have k8:=gq.out.c8;by_cases aa:k<n2
   ·obtain⟨x,ab⟩:∃ x,l[k]?=some x:=⟨_,aQ (by rw[fJ.out];exact aa)⟩;obtain⟨b,o,sn,vz,rfl,bJ,ay,cw,fm,f0,f1,f2,f3,f4⟩:=pq (HD.out.keep g8 HB.out) ab;obtain⟨Az,cz,rfl,_,_⟩:=al fm;obtain⟨nz,iU⟩:∃ nz,x.zone.sets.length=nz:=⟨_,rfl⟩;rw[iU] at f4;have HT:Hid (l.take (k+1)=l.take k ++ [x]):=jq (by
     obtain⟨hl,he⟩:=cQ.1 ab;rw[fQ hl,he])
    have HF:Hid (¬ Np.CopyOk gI x->r=false):=jq (λh=>by rw[<-HR.out];exact Np.aF λq=>h (q.1.2 x (gQ ab)));have xo:Hid (x.zone.sets.length<=20000):=jq (HZ.out x (gQ ab));have aL:=jq ay;have kV:Hid (SlR bh 5 wr wr.heap.size (.slice Az nz cz) x.zone.sets):=jq (by rw[<-iU];exact fm.more cj (by omega));obtain⟨w3,ek⟩:∃ w3,wr.alloc (.cells #[.int .i64 x.host,.int .i64 x.frm,.int .i64 x.til,.string sn,.slice Az nz cz] 46)=w3:=⟨_,rfl⟩;have el:w3.heap.size=wr.heap.size+1:=by rw[<-ek];simp
    have ak:Below wr.heap.size wr w3:=by rw[<-ek];exact (vQ _ _).alloc (bQ _) _
    have p0:w3.cell? ⟨wr.heap.size,0,none⟩=some (.int .i64 x.host):=by rw[<-ek];simp[go_sem]
    have p1:w3.cell? ⟨wr.heap.size,1,none⟩=some (.int .i64 x.frm):=by rw[<-ek];simp[go_sem]
    have p2:w3.cell? ⟨wr.heap.size,2,none⟩=some (.int .i64 x.til):=by rw[<-ek];simp[go_sem]
    have p3:w3.cell? ⟨wr.heap.size,3,none⟩=some (.string sn):=by rw[<-ek];simp[go_sem]
    have p4:w3.cell? ⟨wr.heap.size,4,none⟩=some (.slice Az nz cz):=by rw[<-ek];simp[go_sem]
    have q0:w3.cell? ⟨X,0,none⟩=some (.slice A1 n1 c1):=(ak.cell (by dsimp only;omega)).trans k0;have q8:w3.cell? ⟨X,8,none⟩=some (.int .i64 stop):=(ak.cell (by dsimp only;omega)).trans k8;have ar:=jq (HB.out.trans (ak.mono (by omega)));have C8:=jq (bD.out.trans (ak.mono (by omega)));have n7:=jq (HM.out.keep ak);have kq:Hid (SlR bh 5 w3 w3.heap.size (.slice Az nz cz) x.zone.sets):=jq ((kV.out.keep aX ak).more cj ak.size);clear ab ay fm iU ak kV;by_cases g1:x.host<0
    ·have dg1:decide (x.host<0)=true:=uQ g1;have HX:Hid (r=false):=jq (HF.out λh=>by have:=(ic.out x).1 h;omega);clear g1;go_wp2_with fail;go_ret;exact⟨ae HX.out.symm,ar.out⟩
    have dg1:decide (x.host<0)=false:=tQ g1;by_cases g2:(n1:Int)<=x.host
    ·have dg2:decide ((n1:Int)<=x.host)=true:=uQ g2;have HX:Hid (r=false):=jq (HF.out λh=>by have:=(ic.out x).1 h;omega);clear g2;go_wp2_with fail;go_ret;exact⟨ae HX.out.symm,ar.out⟩
    have dg2:decide ((n1:Int)<=x.host)=false:=tQ g2;by_cases g3:x.frm<0
    ·have dg3:decide (x.frm<0)=true:=uQ g3;have HX:Hid (r=false):=jq (HF.out λh=>by have:=(ic.out x).1 h;omega);clear g3;go_wp2_with fail;go_ret;exact⟨ae HX.out.symm,ar.out⟩
    have dg3:decide (x.frm<0)=false:=tQ g3;by_cases g4:x.til<=x.frm
    ·have dg4:decide (x.til<=x.frm)=true:=uQ g4;have HX:Hid (r=false):=jq (HF.out λh=>by have:=(ic.out x).1 h;omega);clear g4;go_wp2_with fail;go_ret;exact⟨ae HX.out.symm,ar.out⟩
    have dg4:decide (x.til<=x.frm)=false:=tQ g4;by_cases g5:stop<x.til
    ·have dg5:decide (stop<x.til)=true:=uQ g5;have HX:Hid (r=false):=jq (HF.out λh=>by have:=(ic.out x).1 h;omega);clear g5;go_wp2_with fail;go_ret;exact⟨ae HX.out.symm,ar.out⟩
    have dg5:decide (stop<x.til)=false:=tQ g5;have wD:Hid ((0<=x.host/\x.host<n1)/\(0<=x.frm/\x.frm<x.til/\x.til<=stop)):=jq (by omega);clear g1 g2 g3 g4 g5;go_wp2_with fail;refine (OC sn cw _ x.zone.sets xo.out w3 ((gv.out.keep ar.out).more (by omega)) kq.out).mono ?_;rintro e w4 ⟨rfl,av⟩;have em:w3.heap.size<=w4.heap.size:=av.size;have s0:w4.cell? ⟨wr.heap.size,0,none⟩=some (.int .i64 x.host):=(av.cell (by dsimp only;omega)).trans p0;have s1:w4.cell? ⟨wr.heap.size,1,none⟩=some (.int .i64 x.frm):=(av.cell (by dsimp only;omega)).trans p1;have s2:w4.cell? ⟨wr.heap.size,2,none⟩=some (.int .i64 x.til):=(av.cell (by dsimp only;omega)).trans p2;have s3:w4.cell? ⟨wr.heap.size,3,none⟩=some (.string sn):=(av.cell (by dsimp only;omega)).trans p3;have s4:w4.cell? ⟨wr.heap.size,4,none⟩=some (.slice Az nz cz):=(av.cell (by dsimp only;omega)).trans p4;have ba:=jq (ar.out.trans (av.mono (by omega)));have C9:=jq (C8.out.trans (av.mono (by omega)));have Dz:=jq (n7.out.keep av);clear av p0 p1 p2 p3 p4 ek f0 f1 f2 f3 f4 q0 q8 k0 k8 n7;obtain⟨rz,dJ⟩:∃ rz,Np.yes (Np.VZone ⟨sn.data.toList,x.zone.sets⟩)=rz:=⟨_,rfl⟩;rw[dJ];have ie:=jq dJ;clear dJ
    cases rz with
    | false=>
     have HX:Hid (r=false):=jq (HF.out λh=>by
      have h1:=((ic.out x).1 h).2.2;have h2:x.zone=⟨sn.data.toList,x.zone.sets⟩:=by rw[aL.out]
      rw[h2] at h1;have h3:=Np.bB h1;rw[ie.out] at h3
      cases h3)
     go_wp2_with fail;go_ret;exact⟨ae HX.out.symm,ba.out⟩
    | true=>
     have ji:Hid (Np.CopyOk gI x):=jq ((ic.out x).2 ⟨wD.out.1,wD.out.2,by
      have h2:x.zone=⟨sn.data.toList,x.zone.sets⟩:=by rw[aL.out]
      rw[h2];exact Np.ew.1 ie.out⟩)
     have wM:Hid (∀ c∈l.take (k+1),Np.CopyOk gI c):=jq (λc hc=>by
      rw[HT.out] at hc;rcases List.mem_append.1 hc with hc | hc
      ·exact bk.out c hc
      ·rw[List.mem_singleton] at hc;subst hc;exact ji.out)
     have lB:Hid (Np.fp x=(x.host,sn.data.toList)):=jq (by unfold Np.fp;rw[aL.out]);obtain⟨w5,aS⟩:∃ w5,w4.alloc (.cells #[.int .i64 x.host,.string sn] 186)=w5:=⟨_,rfl⟩;obtain⟨w6,cg⟩:∃ w6,w5.alloc (.cells #[.int .i64 x.frm,.int .i64 x.til] 110)=w6:=⟨_,rfl⟩;have iX:w5.heap.size=w4.heap.size+1:=by rw[<-aS];simp
     have gm:w6.heap.size=w5.heap.size+1:=by rw[<-cg];simp
     have aI:Below w4.heap.size w4 w5:=by rw[<-aS];exact (vQ _ _).alloc (bQ _) _
     have aT:Below w4.heap.size w4 w6:=by rw[<-cg];exact aI.alloc (by omega) _
     have t0:w5.cell? ⟨w4.heap.size,0,none⟩=some (.int .i64 x.host):=by rw[<-aS];simp[go_sem]
     have t1:w5.cell? ⟨w4.heap.size,1,none⟩=some (.string sn):=by rw[<-aS];simp[go_sem]
     have u1:w5.cell? ⟨wr.heap.size,1,none⟩=some (.int .i64 x.frm):=(aI.cell (by dsimp only;omega)).trans s1;have u2:w5.cell? ⟨wr.heap.size,2,none⟩=some (.int .i64 x.til):=(aI.cell (by dsimp only;omega)).trans s2;have y0:w6.cell? ⟨w5.heap.size,0,none⟩=some (.int .i64 x.frm):=by rw[<-cg];simp[go_sem]
     have y1:w6.cell? ⟨w5.heap.size,1,none⟩=some (.int .i64 x.til):=by rw[<-cg];simp[go_sem]
     have DA:=jq (Dz.out.keep aT);have dg:=jq (ba.out.trans (aT.mono (by omega)));have Pa:=jq (C9.out.trans (aT.mono (by omega)));have iD:Hid (∀ (j:Nat) (g:List Np.Span) (v:Value),xs[j]?=some ((x.host,sn.data.toList),g,v)->g.length<=500):=jq (λj g v hj=>by
      have h1:=HG.out.each ((x.host,sn.data.toList),g) (List.mem_map.2 ⟨_,gQ hj,rfl⟩);simp only at h1;rw[h1];unfold Np.eR;rw[List.length_map];refine yQ (List.length_filter_le _ _) ?_;rw[List.length_take,fJ.out];omega)
     clear aI aT;go_wp2_with (first
      | (refine Z0 _ rfl _ _ rfl (X1+1) X1 xs rfl DA.out (Nat.lt_succ_self _) (x.host,sn.data.toList) rfl ?_;intro w7 j7 g7 v7 xs7 Fe KR K5 yZ;have Pc:=jq Fe;have Dt:=jq KR;have DB:=jq K5;have ur:=jq yZ;have y0':w7.cell? ⟨w5.heap.size,0,none⟩=some (.int .i64 x.frm):=(yZ.cell (by dsimp only;omega)).trans y0;have y1':w7.cell? ⟨w5.heap.size,1,none⟩=some (.int .i64 x.til):=(yZ.cell (by dsimp only;omega)).trans y1;have oI:w7.heap.size=w6.heap.size:=yZ.size;have Ab:Hid (g7.length<=100000):=jq (by rcases Fe with ⟨_,hj⟩ | ⟨_,_,_,rfl,_⟩;exact yQ (iD.out _ _ _ hj) (by omega);simp);clear Fe KR K5 yZ)
      | (at_builtin;refine ZW _ rfl _ _ rfl (X1+1) v7 g7 rfl (DB.out.row _ (gQ Dt.out)) w5.heap.size x.frm x.til (by simp[go_sem]) y0' y1' Ab.out (by omega) ?_;intro v8 w8 gl dz Kg;have H8:=jq (And.intro gl (And.intro dz Kg));have vt:w7.heap.size<=w8.heap.size:=dz.size;clear gl dz Kg)
      | (refine ZZ _ w7 rfl _ _ _ rfl (X1+1) X1 xs7 DB.out (Nat.lt_succ_self _) j7 (x.host,sn.data.toList) g7 (g7 ++ [⟨x.frm,x.til⟩]) v7 v8 Dt.out H8.out.2.1 H8.out.1 H8.out.2.2 rfl rfl rfl ?_;intro w9 K6 LB;have H9:=jq (And.intro K6 LB);clear K6 LB))
     go_roundw
     case rel=>
      have e9:Below X1 wm w9:=((Pa.out.trans (ur.out.below (bQ _))).grown H8.out.2.1 (by omega) (λq hq=>by have:=(World.ownsRow.lt (DB.out.row _ (gQ Dt.out)) q hq).1;omega)).trans (H9.out.2.below (bQ _));refine⟨k+1,_,by omega,by go_num,by rw[H9.out.2.size];omega,jq e9,jq H9.out.1,jq ?_,wM⟩;rw[HT.out];have hc:=Pc.out;rw[<-lB.out] at hc
      have:=SQ (v':=v8) HG.out hc
      rw[lB.out] at this;exact this
     case measure=>simp[intOf] <;> omega
   ·have fL:Hid (l.take k=l):=jq (kQ (by rw[fJ.out];omega));have wz:Hid (Np.GrpI (xs.map λx=>(x.1,x.2.1)) l):=jq (by have:=HG.out;rwa [fL.out] at this);have wN:Hid (∀ c∈l,Np.CopyOk gI c):=jq (by have:=bk.out;rwa [fL.out] at this);have k1:=gq.out.c1;clear HG bk fL k0 k8;go_wp2_with (at_range;refine Z2 _ rfl _ rfl (X1+1) X1 xs rfl HM.out ?_;intro w10 Lo Kk LT;have IG:=jq Lo;have CU:=jq (bD.out.trans (Kk.mono (by omega)));clear Lo Kk);go_frame;obtain⟨I,hI⟩:∃ I,wr.heap.size=I:=⟨_,rfl⟩;rw[hI] at IG LT;rw[hI];have adZ:X1<I:=by omega
    have Ii:Hid (∀ x∈xs,x.2.1.length<=500/\∀ t∈x.2.1,t.frm<t.til):=jq (λx hx=>by
     have h1:=wz.out.each (x.1,x.2.1) (List.mem_map.2 ⟨x,hx,rfl⟩);simp only at h1;rw[h1];refine⟨?_,λt ht=>?_⟩
     ·unfold Np.eR;rw[List.length_map];refine yQ (List.length_filter_le _ _) ?_;rw[fJ.out];omega
     ·obtain⟨c,hc,rfl⟩:=List.mem_map.1 ht;exact (((ic.out c).1 (wN.out c (List.mem_filter.1 hc).1)).2.1).2.1)
    have rT:Hid ((l.Pairwise λc d=>¬ Np.jf c d)↔∀ x∈xs,x.2.1.Pairwise λa b=>¬ Np.mo a b):=jq (wz.out.ok.trans ⟨λh x hx=>h (x.1,x.2.1) (List.mem_map.2 ⟨x,hx,rfl⟩),λh y hy=>by
     obtain⟨x,hx,rfl⟩:=List.mem_map.1 hy;exact h x hx⟩)
    have aaK:=C5;clear gq HM bD HB hI cZ k1;go_loopw [] (λwq=>∃ (seen:Array Nat) (xs':List eC),I<wq.heap.size/\Hid (Below X1 wm wq)/\Hid (RangeX (X1+1) X1 I xs' seen wq)/\Hid (xs'.length=xs.length/\∀ (j:Nat) (x':eC),xs'[j]?=some x'->∃ x:eC,xs[j]?=some x/\x'.2.1.Perm x.2.1)/\Hid (∀ (j:Nat) (x:eC),seen.contains j=true->xs[j]?=some x->x.2.1.Pairwise λa b=>¬ Np.mo a b)) (λwq=>wq.rangeLeft X1 I)
    case atStart=>exact⟨#[],xs,by omega,CU,IG,jq ⟨rfl,λj x hx=>⟨x,hx,List.Perm.refl _⟩⟩,jq (by simp)⟩
    case round=>
     obtain⟨seen,xs',EP,C7,Qm,AC,ID⟩:=hrel;have O5:=jq (C5.out.keep C7.out EZ);have k1:=O5.out.c1;go_wp2_with (at_next;refine Z1 _ rfl _ rfl (X1+1) X1 I xs' seen rfl Qm.out (λkC=>?_) (λj p g v w11 hj FL BV Fy hen=>?_))
     ·have mi:Hid (l.Pairwise λc d=>¬ Np.jf c d):=jq (rT.out.2 λx hx=>by
       obtain⟨j,hj,rfl⟩:=nQ.1 hx;exact ID.out j _ (kC j (by rw[AC.out.1];exact hj)) (aQ hj))
      have jh:=jq (C6.out.trans (C7.out.mono (by omega)));refine (N0 _ l (by rw[fJ.out];omega) _ ((HD.out.keep g8 jh.out).more ma (by omega))).mono ?_;rintro e w13 ⟨v13,rfl,yK,ye⟩;obtain⟨A13,c13,rfl⟩:=bU.form yK;have rU:=jq (jh.out.trans (ye.mono (by omega)));have Fv:(Np.cE (l.map (·.zone.apex))).length<=500:=by
       have:=Np.rM (l.map (·.zone.apex))
       rw[List.length_map,fJ.out] at this;omega
      obtain⟨m13,yF⟩:∃ m,(Np.cE (l.map (·.zone.apex))).length=m:=⟨_,rfl⟩;rw[yF] at Fv |-;have d13:decide ((m13:Int)<=500)=true:=uQ (by omega);clear yK ye yF;go_wp2_with fail;go_ret;exact⟨ae (by rw[<-HR.out];exact (Np.bB ⟨⟨⟨CZ.out,Np.ew.1 qE.out⟩,wN.out⟩,mi.out⟩).symm),rU.out⟩
     ·obtain⟨xj,F7,FI⟩:=AC.out.2 j _ hj;have hlg:g.length=xj.2.1.length:=FI.length_eq;have Up:=(Ii.out xj (gQ F7)).1;have IA:=jq FI;have AE:=jq F7;have HJ:=jq hj;have DX:=jq FL;have abJ:=jq BV;have aaY:=jq Fy;have acJ:I<w11.heap.size:=by rw[BV.size];exact EP
      have CW:Hid (Below X1 wm w11):=jq (C7.out.trans (BV.below (by omega)));refine (NN _ Uc (enters_of func122 (by kernel_rfl) rfl) (X1+1) v g w11 (DX.out.mapX.row _ (gQ (by exact HJ.out))) (by omega)).mono ?_;rintro e w12 ⟨rfl,ys,hp,rv,BK,uW⟩;have Qg:Hid (RangeX (X1+1) X1 I (xs'.set j (p,ys,v)) (seen.push j) w12):=jq (DX.out.changed (Nat.lt_succ_self _) HJ.out uW BK);have qB:Hid (Np.Eh ys↔xj.2.1.Pairwise λa b=>¬ Np.mo a b):=jq (Np.Yr (hp.trans IA.out) rv (Ii.out xj (gQ AE.out)).2);have IC:Hid (ys.Perm xj.2.1):=jq (hp.trans IA.out);have pX:∀ q,v.ownBlock=some q->X1+1<=q:=λq hq=>(World.ownsRow.lt (DX.out.mapX.row _ (gQ (by exact HJ.out))) q hq).1;have mP:Hid (Below X1 wm w12):=jq (CW.out.grown uW (by omega) (λq hq=>by have:=pX q hq;omega));have UQ:w12.rangeLeft X1 I<wr.rangeLeft X1 I:=by
       have e:w12.rangeLeft X1 I=w11.rangeLeft X1 I:=M2 (uW.block X1 (by omega) (λe=>by have:=pX _ e.symm;omega)) (uW.block I (by omega) (λe=>by have:=FL.row _ (gQ hj);exact this e.symm));rw[e];exact Fy
      have Vx:I<w12.heap.size:=by have:=uW.size;omega
      have IL:Hid (SlR dU 2 w12 w12.heap.size v ys):=jq (aK.slr BK (by have:=hp.length_eq;omega));have Pv:Hid (¬ Np.Eh ys->r=false):=jq (λh=>by
       rw[<-HR.out];refine Np.aF λq=>h (qB.out.2 ?_);exact (rT.out.1 q.2) xj (gQ AE.out))
      have Vt:ys.length<=500:=by rw[IC.out.length_eq];exact Up
      obtain⟨Av,cv,rfl⟩:=aK.form BK;obtain⟨wo,rfl⟩:∃ wo,wo=wr:=⟨_,rfl⟩;clear hp rv BK uW FL BV Fy hen hj F7 FI pX k1;obtain⟨ny,pL⟩:∃ ny,ys.length=ny:=⟨_,rfl⟩;rw[pL] at Vt IL;rw[pL];have Ak:=jq pL;clear pL;go_wp2_with fail;go_loopw [9] (λi wi=>∃ q:Nat,1<=q/\(q<=ny\/q=1)/\i = .int .i64 q/\Hid (Below w12.heap.size w12 wi)/\Hid (∀ t (h:t+1<ys.length),t+1<q->ys[t].til<=ys[t+1].frm)) (λi _=>ny - (intOf i).toNat)
      case atStart=>exact⟨1,bQ _,.inr rfl,rfl,jq (vQ _ _),jq (λt h h2=>by omega)⟩
      case round=>
       obtain⟨q,kE,jD,rfl,ck,HQ⟩:=hrel;have rG:=ck.out.size;by_cases K0:q<ny
       ·obtain⟨m,hm⟩:∃ m,q=m+1:=⟨q - 1,by omega⟩;have pL:=Ak.out;have vf:m<ys.length:=by omega
        have Lm:q<ys.length:=by omega
        obtain⟨a,ha⟩:∃ a,ys[m]?=some a:=⟨_,aQ vf⟩;obtain⟨b,hb⟩:∃ b,ys[q]?=some b:=⟨_,aQ Lm⟩;have zW:=IL.out.keep iw ck.out;obtain⟨bb,oo,rfl⟩:=CA (k:=m) zW vf;obtain⟨bG,E2⟩:=zy zW ha;obtain⟨_,E3⟩:=zy zW hb;have a0:=E2.c0;have a1:=E2.c1;have b0:=E3.c0;have b1:=E3.c1;have aV:IntKind.i64.wrap ((q:Int) - 1)=(m:Int):=by rw[show (q:Int) - 1=m by omega];simp[IntKind.wrap,IntKind.bits,IntKind.signed];omega
        have i1:(0:Int)<=(q:Int):=by omega
        have i2:(q:Int)<(ny:Int):=by omega
        have i3:(0:Int)<=(m:Int):=by omega
        have i4:(m:Int)<(ny:Int):=by omega
        have i5:m<ny:=by omega
        have kN:Hid (b.frm<a.til->r=false):=jq (λaa=>Pv.out λlW=>by
         have h1:=lW m (by omega);obtain⟨e1,e2⟩:=cQ.1 ha;obtain⟨e3,e4⟩:=cQ.1 hb;subst hm;rw[e2,e4] at h1;omega)
        have Hz:Hid (¬ b.frm<a.til->∀ t (h:t+1<ys.length),t+1<q+1->ys[t].til<=ys[t+1].frm):=jq (λlP t h h2=>by
         by_cases e:t=m
         ·subst e;obtain⟨e1,e2⟩:=cQ.1 ha;obtain⟨e3,e4⟩:=cQ.1 hb;subst hm;rw[e2,e4];omega
         ·exact HQ.out t h (by omega))
        obtain⟨af,au⟩:=a;obtain⟨bf,bu⟩:=b;dsimp only at a0 a1 b0 b1 kN Hz;clear ha hb zW E2 E3 hm pL vf Lm bG;by_cases pu:bf<au
        ·have dd:decide (bf<au)=true:=uQ pu;have HX:=jq (kN.out pu);have jh:=jq (C6.out.trans ((mP.out.trans (ck.out.mono (by omega))).mono (by omega)));clear pu;go_wp2_with fail;go_quiet (fail);go_wp2_with fail;go_ret;exact⟨ae HX.out.symm,below_drewN jh.out _⟩
        ·have dd:decide (bf<au)=false:=tQ pu;have HX:=jq (Hz.out pu);clear pu;go_wp2_with fail;go_quiet (fail);go_wp2_with fail;go_roundw
         case rel=>exact⟨q+1,by omega,by omega,by go_num,jq (below_drewN ck.out _),HX⟩
         case measure=>simp[intOf] <;> omega
       ·have mi:Hid (xj.2.1.Pairwise λa b=>¬ Np.mo a b):=jq (qB.out.1 λt h=>HQ.out t h (by have:=Ak.out;omega));go_wp2_with fail;go_roundw
        case rel=>
         refine⟨seen.push j,_,by omega,jq (mP.out.trans (ck.out.mono (by omega))),jq (Qg.out.keep ck.out),jq ⟨by rw[List.length_set];exact AC.out.1,λj' x' hx'=>?_⟩,jq λj' x hs hx=>?_⟩
         ·rw[List.getElem?_set] at hx';split at hx'
          ·rename_i e;subst e;rw[Qb (cQ.1 HJ.out).1] at hx'
           cases hx'
           exact⟨xj,AE.out,IC.out⟩
          ·exact AC.out.2 j' x' hx'
         ·rw[Array.contains_push,Bool.or_eq_true] at hs;rcases hs with hs | hs
          ·exact ID.out j' x hs hx
          ·have e:j'=j:=by simpa using hs
           subst e
           have:=AE.out
           rw[this] at hx
           cases hx
           exact mi.out
        case measure=>
         have e:=M2 (w:=w12) (w':=wr) (r:=X1) (I:=I) (ck.out.block _ (by omega)) (ck.out.block _ (by omega));rw[e];exact UQ
end
section
open Go.RowKit Go.Sort Go.Shelf
theorem SN{W w':World}(h:D.Below W.heap.size W w'):∃ q os,w'=grow (W.drewN q) os:=by
 refine⟨w'.drawn - W.drawn,w'.heap.extract W.heap.size w'.heap.size,?_⟩;have hh:w'.heap=W.heap++w'.heap.extract W.heap.size w'.heap.size:=by
  apply Array.ext_getElem?;intro j;rcases Nat.lt_or_ge j W.heap.size with h1 | h1
  ·rw[Array.getElem?_append_left h1];exact h.block j h1
  ·rw[Array.getElem?_append_right h1,Array.getElem?_extract];split
   ·congr 1;omega
   ·rw[Array.getElem?_eq_none (by omega)]
 have hd:w'.drawn=W.drawn+(w'.drawn - W.drawn):=by have:=h.drawn;omega
 have h1:=h.os;have h2:=h.tape;have h3:=h.output
 cases w'
 cases W
 simp only[grow,World.drewN,World.mk.injEq] at *;exact⟨hh,h2,hd,h1,h3⟩
abbrev VN:={ x:List UInt8 // Np.aC x=true }
instance:Inhabited VN:=⟨⟨[46],by decide⟩⟩
def ot(x:VN):Value:=aB x.1
def jU(x y:VN):Int:=Np.aD x.1 y.1
theorem Zd:SWO (ltOf jU) where
 irrefl x:=by unfold ltOf jU;rw[Np.er.self];rfl
 trans x y z h1 h2:=by
  unfold ltOf jU at *;simp only[Qa] at *;exact Np.er.trans _ _ _ h1 h2
 ntrans x y z h1 h2:=by
  unfold ltOf jU at *;simp only[decide_eq_false_iff_not] at *;intro h3;rcases Int.lt_trichotomy (Np.aD x.1 y.1) 0 with h4 | h4 | h4
  ·exact h1 h4
  ·have:=Np.er.zero _ _ h4;rw[this] at h3;exact h2 h3
  ·have:=Np.er.trans _ _ _ (Np.er.anti' _ _ h4) h3
   exact h2 this
theorem Zg(x y:VN)(h1:ltOf jU x y=false)(h2:ltOf jU y x=false):x=y:=by
 unfold ltOf jU at *;simp only[decide_eq_false_iff_not] at *;apply Subtype.ext;rcases Int.lt_trichotomy (Np.aD x.1 y.1) 0 with h4 | h4 | h4
 ·exact absurd h4 h1
 ·exact Np.er.zero _ _ h4
 ·exact absurd (Np.er.anti' _ _ h4) h2
theorem NP{x:List UInt8}(h:Np.aC x=true):(⟨x.toArray⟩:ByteArray).size<=140737488355328:=by
 have:=qk h
 have e:(⟨x.toArray⟩:ByteArray).size=x.length:=by rw[<-aU]
 omega
theorem aaZ(x y:VN)(w:World) :
 Calls prog 136 #[ot x,ot y] w λe w'=>e = .returned (.int .i64 (jU x y))/\D.Below w.heap.size w w':=by
 have hc:=D.compare_any ⟨x.1.toArray⟩ ⟨y.1.toArray⟩ (NP x.2) (NP y.2) w;have e1:(⟨x.1.toArray⟩:ByteArray).data.toList=x.1:=rfl;have e2:(⟨y.1.toArray⟩:ByteArray).data.toList=y.1:=rfl;have e3:D.cmpVal x.1 y.1 = .tuple #[.int .i64 (jU x y),.int .i64 0]:=by unfold D.cmpVal;rw[x.2,y.2];rfl
 rw[e1,e2,e3] at hc;have HC:=jq hc;clear hc e1 e2 e3;unfold ot aB;generalize jU x y=z at HC |-;go_enter func136,ntmps136;go_wp2_with (go_at_call 137;refine HC.out.mono ?_;rintro e w2 ⟨rfl,ac⟩;have aj:=jq ac;clear ac);go_ret;exact⟨rfl,aj.out⟩
theorem TS(enc:VN->Value){w:World}{g n:Nat}{os:Array Obj}{cur:Array Value}{e:TypeId}{fr:Nat×Nat}(d:Array VN)(hb:w.heap[g]?=some (.cells cur e fr)) :
 (sortWorld enc w g 0 n d os).heap[g]?=some (.cells (putCells enc 0 d cur) e fr):=by
 have hl:g<w.heap.size:=(eQ.1 hb).1;unfold sortWorld;rw[heap_grow_old _ _ (by simpa [putRow,mapBlock,Sort.ahead] using hl)];simp[putRow,mapBlock,Sort.ahead,Array.getElem?_modify,hb,onCells]
theorem SO(enc:VN->Value){w:World}{g n:Nat}{os:Array Obj}(d:Array VN):w.grownBy (sortWorld enc w g 0 n d os) (some g):=by
 unfold sortWorld;refine⟨rfl,rfl,rfl,by simp,λq hq hne=>?_⟩;rw[heap_grow_old _ _ (by simpa using hq)]
 have:g≠q:=λe=>hne (by rw[e])
 simp[putRow,mapBlock,Sort.ahead,Array.getElem?_modify,this]
theorem Y1(base:Nat)(v:Value)(xs:List (List UInt8))(w:World)(hown:bU base w v xs)(hv:∀ x∈xs,Np.aC x=true)(hl:xs.length<=100000) :
 Calls prog 135 #[v,.func (.func 136) #[] #[]] w λe w'=>e = .returned (.tuple #[])/\bU base w' v (Np.rL xs)/\w.grownBy w' v.ownBlock:=by
 obtain⟨ys,Vv⟩:∃ ys:List VN,ys.map (·.1)=xs:=⟨xs.pmap (λx h=>⟨x,h⟩) hv,by rw[List.map_pmap];simp⟩;subst Vv;have hs:Np.rL (ys.map (·.1))=(ys.mergeSort λx y=>!(ltOf jU) y x).map (·.1):=by
  unfold Np.rL;exact (List.map_mergeSort (r:=λx y:VN=>!(ltOf jU) y x) (s:=λa b=>!decide (Np.aD b a<0)) (f:=λx:VN=>x.1) (l:=ys) (λa _ b _=>rfl)).symm
 have nI:w.ownsRow base 9 1 v (ys.map (·.1)).length ((ys.map (·.1)).map aB):=hown;rw[List.length_map] at nI hl;rcases nI.2 with ⟨rfl,h0⟩ | ⟨g,cap,cur,rfl,dD,hb,h1,h2,h3,h4⟩
 ·have:ys = []:=rQ h0
  subst this;refine (Tryz.slices_SortFunc_none (α:=VN) none 0 _ w).mono ?_;intro e w' hh;obtain⟨rfl,rfl⟩:=hh;exact⟨rfl,by rw[hs];simpa using hown,⟨rfl,rfl,rfl,bQ _,λ_ _ _=>rfl⟩⟩
 have eg:∀ args w,(callFunc 136 args).run prog w = .ok (.enter 136 args) w:=enters_of func136 (by kernel_rfl) rfl;have hH:Holds ot w g 0 ys.toArray:=λj hj=>by
  have hj':j<ys.length:=by simpa using hj
  refine⟨?_,by simp[World.frozen?,hb]⟩
  have:=nI.cellAt j (by omega)
  rw[Nat.zero_add,this,List.getElem?_map,List.getElem?_map,aQ hj',getElem!_pos ys.toArray j hj];simp[ot]
 have yk:CmpLays1 prog 136 #[] ot jU g 0 ys.toArray.size w:=λm os dk _ x y=>(aaZ x y _).mono λe w' ⟨he,hw⟩=>⟨he,SN hw⟩;have Bz:=Tryz.slices_SortFunc_total ot (λ_=>rfl) jU Zd 136 #[] g 0 cap ys.toArray w eg yk hH (eQ.1 hb).1 (by simp;omega) Zg;have hlen:(ys.mergeSort λx y=>!(ltOf jU) y x).length=ys.length:=List.length_mergeSort _;rw[List.size_toArray] at Bz;refine Bz.mono λe w' ⟨he,n,os,hw⟩=>⟨he,?_,?_⟩
 ·subst hw;rw[hs];unfold bU;rw[List.length_map,hlen];refine⟨by simp,.inr ⟨g,cap,_,rfl,dD,TS ot _ hb,h1,h2,by simp[putCells,h3],?_⟩⟩;apply List.ext_getElem?;intro j;by_cases hj:j<ys.length
  ·have uY:j<cur.size:=by omega
   have th:j<(ys.mergeSort λx y=>!(ltOf jU) y x).length:=by omega
   rw[List.getElem?_take_of_lt (by omega),Array.getElem?_toList,List.getElem?_map,List.getElem?_map,aQ th];simp[putCells,uY,hj,ot]
  ·rw[List.getElem?_take_eq_none (by omega),List.getElem?_eq_none (by simp;omega)]
 ·subst hw;exact SO ot _
def ed(W:World)(B:Nat)(e:List Value)(h:Np.Hist):Prop:=∃ (hv cv:Value) (s:ByteArray) (dv cN:Value),e = [hv,cv,.string s,.int .i64 h.anchor.type,.int .i64 h.anchor.life,dv,cN,.int .i64 h.drift,.int .i64 h.stop]/\s.data.toList=h.anchor.name/\s.size<=140737488355328/\
 SlR iG 3 W B hv h.hosts/\SlR fU 5 W B cv h.copies/\SlR bn 3 W B dv h.anchor.data/\SlR jn 1 W B cN h.hints
theorem kf:cY ed:=λ_ _ _ _ _ ⟨hv,cv,s,dv,cN,h0,h1,h2,h3,h4,h5,h6⟩ hb=>⟨hv,cv,s,dv,cN,h0,h1,h2,h3.keep mI hb,h4.keep g8 hb,h5.keep de hb,h6.keep oP hb⟩
theorem kg:dw ed:=λ_ _ _ _ _ ⟨hv,cv,s,dv,cN,h0,h1,h2,h3,h4,h5,h6⟩ hb=>⟨hv,cv,s,dv,cN,h0,h1,h2,h3.more vJ hb,h4.more ma hb,h5.more eN hb,h6.more vK hb⟩
def Np.vW(h:Np.Hist):Prop:=h.copies.length<=500/\∀ c∈h.copies,c.zone.sets.length<=20000
theorem Q9{h:Np.Hist}(v:Np.VHist h):∀ x∈Np.cE (h.copies.map (·.zone.apex)),Np.aC x=true:=λx hx=>by
 obtain⟨c,hc,rfl⟩:=List.mem_map.1 (Np.tJ.1 hx);have h1:=(v.each c hc).zone.right;unfold Np.dZ at h1;simp only[Bool.and_eq_true] at h1;exact h1.1.1
theorem aaJ(e:List Value)(h:Np.Hist)(hf:Np.vW h)(w:World)(hR:iH w w.heap.size)(hh:ed w w.heap.size e h) :
 Calls prog 60 #[.agg e.toArray] w λe w'=>((Np.VHist h/\∃ v',e = .returned (.tuple #[v',.int .i64 0])/\bU w.heap.size w' v' (Np.apexes h.copies))\/(¬ Np.VHist h/\e = .returned (.tuple #[.slice none 0 0,.int .i64 1])))/\Below w.heap.size w w':=by
 obtain⟨hv,cv,s,dv,cN,rfl,h1,h2,h3,h4,h5,h6⟩:=hh;obtain⟨hosts,copies,⟨name,ty,life,data⟩,hints,drift,stop⟩:=h;dsimp only at h1 h3 h4 h5 h6;subst h1;have H3:=jq h3;have H4:=jq h4;have H5:=jq h5;have H6:=jq h6;have gv:=jq hR;have lA:=jq hf;obtain⟨A1,c1,rfl,_,_⟩:=al h3;obtain⟨A2,c2,rfl,_,_⟩:=al h4;obtain⟨A3,c3,rfl,_,_⟩:=al h5;obtain⟨A4,c4,rfl,_,_⟩:=al h6;clear h3 h4 h5 h6 hR hf;obtain⟨r,hr⟩:∃ r,Np.yes (Np.VHist ⟨hosts,copies,⟨s.data.toList,ty,life,data⟩,hints,drift,stop⟩)=r:=⟨_,rfl⟩;have sF:=jq hr;obtain⟨n1,bl⟩:∃ n,hosts.length=n:=⟨_,rfl⟩;obtain⟨n2,bP⟩:∃ n,copies.length=n:=⟨_,rfl⟩;obtain⟨n3,dW⟩:∃ n,data.length=n:=⟨_,rfl⟩;obtain⟨n4,eT⟩:∃ n,hints.length=n:=⟨_,rfl⟩;rw[bl] at H3 |-;rw[bP] at H4 |-;rw[dW] at H5 |-;rw[eT] at H6 |-;clear hr bl bP dW eT;obtain⟨X,hX⟩:∃ X,w.heap.size=X:=⟨_,rfl⟩;have jS:=jq hX;obtain⟨W1,ap⟩:∃ W1,w.alloc (.cells #[.slice A1 n1 c1,.slice A2 n2 c2,.string s,.int .i64 ty,.int .i64 life,.slice A3 n3 c3,.slice A4 n4 c4,.int .i64 drift,.int .i64 stop] 29)=W1:=⟨_,rfl⟩;have aG:Below w.heap.size w W1:=by rw[<-ap];exact (vQ _ _).alloc (bQ _) _
 have kJ:W1.heap.size=w.heap.size+1:=by rw[<-ap];simp
 have k0:W1.cell? ⟨X,0,none⟩=some (.slice A1 n1 c1):=by rw[<-ap,<-hX];simp[go_sem]
 have k1:W1.cell? ⟨X,1,none⟩=some (.slice A2 n2 c2):=by rw[<-ap,<-hX];simp[go_sem]
 have k2:W1.cell? ⟨X,2,none⟩=some (.string s):=by rw[<-ap,<-hX];simp[go_sem]
 have k3:W1.cell? ⟨X,3,none⟩=some (.int .i64 ty):=by rw[<-ap,<-hX];simp[go_sem]
 have k4:W1.cell? ⟨X,4,none⟩=some (.int .i64 life):=by rw[<-ap,<-hX];simp[go_sem]
 have k5:W1.cell? ⟨X,5,none⟩=some (.slice A3 n3 c3):=by rw[<-ap,<-hX];simp[go_sem]
 have k6:W1.cell? ⟨X,6,none⟩=some (.slice A4 n4 c4):=by rw[<-ap,<-hX];simp[go_sem]
 have k7:W1.cell? ⟨X,7,none⟩=some (.int .i64 drift):=by rw[<-ap,<-hX];simp[go_sem]
 have k8:W1.cell? ⟨X,8,none⟩=some (.int .i64 stop):=by rw[<-ap,<-hX];simp[go_sem]
 rw[hX] at aG kJ H3 H4 H5 H6 gv |-;have aP:=jq aG;clear aG;go_enter func60,ntmps60;go_wp2_with fail;refine (KP _ hosts _ copies s h2 ty life _ data _ hints drift stop lA.out.1 lA.out.2 _ ((gv.out.keep aP.out).more (by omega)) ((H3.out.keep mI aP.out).more vJ (by omega)) ((H4.out.keep g8 aP.out).more ma (by omega)) ((H5.out.keep de aP.out).more eN (by omega)) ((H6.out.keep oP aP.out).more vK (by omega))).mono ?_;rintro e w2 ⟨rfl,ac⟩;have aJ:=ac.size;have m1:w2.cell? ⟨X,1,none⟩=some (.slice A2 n2 c2):=(ac.cell (by dsimp only;omega)).trans k1;have aj:=jq (aP.out.trans (ac.mono (by omega)));clear ac ap k0 k1 k2 k3 k4 k5 k6 k7 k8 hX;rw[sF.out]
 cases r with
 | false=>
  have HN:Hid (¬ Np.VHist ⟨hosts,copies,⟨s.data.toList,ty,life,data⟩,hints,drift,stop⟩):=jq (λh=>by have:=Np.bB h;rw[sF.out] at this;cases this);go_wp2_with fail;go_ret2;exact⟨.inr ⟨HN.out,rfl⟩,aj.out⟩
 | true=>
  have HV:Hid (Np.VHist ⟨hosts,copies,⟨s.data.toList,ty,life,data⟩,hints,drift,stop⟩):=jq (Np.ew.1 sF.out);have qy:Hid (copies.length<=500):=jq lA.out.1;go_wp2_with fail;refine (N0 _ copies (by have:=qy.out;omega) _ ((H4.out.keep g8 aj.out).more ma (by omega))).mono ?_;rintro e w3 ⟨v3,rfl,nH,ak⟩;have el:=ak.size;have gh:=jq nH;have ar:=jq (aj.out.trans (ak.mono (by omega)));clear nH ak;go_wp2_with fail;refine (Y1 w2.heap.size _ _ _ gh.out (Q9 HV.out) (by have:=Np.rM (copies.map (·.zone.apex));rw[List.length_map] at this;have:=qy.out;omega)).mono ?_;rintro e w4 ⟨rfl,pM,KG⟩;have H4':=jq (And.intro (bU.weak pM (show X<=w2.heap.size by omega)) (ar.out.grown KG (by omega) (λq hq=>by have:=(World.ownsRow.lt gh.out q hq).1;omega)));clear pM KG;go_wp2_with fail;go_ret2;exact⟨.inl ⟨HV.out,_,rfl,H4'.out.1⟩,H4'.out.2⟩
end
section
open Go.RowKit Go.Shelf

end
end Go.Proofs.YtfnopgdcaanaiaaGreatDoor
