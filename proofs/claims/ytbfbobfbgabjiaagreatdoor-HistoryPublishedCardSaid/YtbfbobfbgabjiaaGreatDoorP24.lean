/- Parts of the proof. No condition. -/
import Derived.Test.YtbfbobfbgabjiaaGreatDoorP21
import Derived.Test.YtbfbobfbgabjiaaGreatDoorP22
set_option linter.all false
set_option maxRecDepth 100000
set_option maxHeartbeats 8000000
namespace Go.Proofs.YtbfbobfbgabjiaaGreatDoor
open Go.Proofs.Tryz
section
open Go.RowKit Go.MapKept Go.Shelf Go.Sort
theorem YO(f u f' u':Int)(w:World) :
 Calls prog 57 #[.agg #[.int .i64 f,.int .i64 u],.agg #[.int .i64 f',.int .i64 u']] w λe w'=>e = .returned (.int .i64 (Np.cJ f f'))/\∃ q os,w'=grow (w.drewN q) os:=by
 go_enter func57,ntmps57;go_wp2_with (go_at_call 58; refine (AS _ _ _).mono ?_; rintro e w' ⟨rfl,rfl⟩);go_ret;exact⟨rfl,0,_,by rw[alloc_eq_grow,alloc_eq_grow,grow_grow]; rfl⟩
def Np.tk(h:Np.Hist):Prop:=(1<=h.stop/\h.stop<=10000000)/\(0<=h.drift/\h.drift<=1000)
theorem aMY{h:Np.Hist} : Np.VHist h↔((Np.tk h/\Np.VWorld ⟨h.hosts,[],h.anchor,h.hints⟩)/\∀ c∈h.copies,Np.CopyOk h c)/\h.copies.Pairwise λc d=>¬ Np.gE c d:=
 ⟨λv=>⟨⟨⟨⟨v.stop,v.drift⟩,v.hosts,v.root,λp hp=>(by cases hp),List.Pairwise.nil⟩,v.each⟩,v.apart⟩,λv=>⟨v.1.1.1.1,v.1.1.1.2,v.1.1.2.hosts,v.1.1.2.root,v.1.2,v.2⟩⟩
structure q9(W:World)(X:Nat)(hv cv:Value)(stop:Int):Prop where
 c0:W.cell? ⟨X,0,none⟩=some hv
 c1:W.cell? ⟨X,1,none⟩=some cv
 c8:W.cell? ⟨X,8,none⟩=some (.int .i64 stop)
 lt:X<W.heap.size
theorem q9.keep{W W':World}{X B:Nat}{hv cv:Value}{stop:Int}(h:q9 W X hv cv stop)(hb:Below B W W')(hB:X<B):q9 W' X hv cv stop:=⟨(hb.cell hB).trans h.c0,(hb.cell hB).trans h.c1,(hb.cell hB).trans h.c8,lQ h.lt hb.size⟩
theorem q9.turned{W W':World}{X r:Nat}{hv cv:Value}{stop:Int}(h:q9 W X hv cv stop)(ht:Turned r W W')(hr:X≠r):q9 W' X hv cv stop:=⟨(ht.cell hr).trans h.c0,(ht.cell hr).trans h.c1,(ht.cell hr).trans h.c8,by rw[ht.size]; exact h.lt⟩
theorem Xo{xs xs6:List fi}{l:List Np.Copy}{c:Np.Copy}{j:Nat}{g:List Np.Span}{v v':Value}(h:Np.GrpI (xs.map λx=>(x.1,x.2.1)) l)(hc:(xs6=xs/\xs[j]?=some (Np.fT c,g,v))\/(Np.fT c∉xs.map (·.1)/\xs6=xs ++ [(Np.fT c,[],.slice none 0 0)]/\j=xs.length/\g = []/\v = .slice none 0 0)):Np.GrpI ((xs6.set j (Np.fT c,g ++ [Np.gV c],v')).map λx=>(x.1,x.2.1)) (l ++ [c]):=by
 rcases hc with ⟨rfl,hj⟩ | ⟨hn,rfl,rfl,rfl,rfl⟩
 ·rw[List.map_set];exact h.old (by rw[List.getElem?_map,hj]; rfl)
 ·rw[List.set_append_right _ _ (bQ _),Nat.sub_self,List.set_cons_zero,List.map_append];exact h.new (by rw[List.map_map]; exact hn)
theorem OS(hv:Value)(hs:List Np.Host)(cv:Value)(l:List Np.Copy)(s:ByteArray)(am:s.size<=140737488355328)(ty life:Int)(dv:Value)(d:List Np.Datum)(dh:Value)(hints:List Int)(drift stop:Int)(hl:l.length<=500)(hz:∀ p∈l,p.zone.sets.length<=20000)(w:World)(hR:iS w w.heap.size)
 (hh:SlR gb 3 w w.heap.size hv hs) (hd:SlR dD 5 w w.heap.size cv l) (hdd:SlR cr 3 w w.heap.size dv d) (pB:SlR gJ 1 w w.heap.size dh hints) :
 Calls prog 16 #[.agg #[hv,cv,.string s,.int .i64 ty,.int .i64 life,dv,dh,.int .i64 drift,.int .i64 stop]] w λe w'=>e = .returned (.bool (Np.yes (Np.VHist ⟨hs,l,⟨s.data.toList,ty,life,d⟩,hints,drift,stop⟩)))/\Below w.heap.size w w':=by
 obtain⟨r,hr⟩:∃ r,Np.yes (Np.VHist ⟨hs,l,⟨s.data.toList,ty,life,d⟩,hints,drift,stop⟩)=r:=⟨_,rfl⟩;obtain⟨iG,rT⟩:∃ h:Np.Hist,(⟨hs,l,⟨s.data.toList,ty,life,d⟩,hints,drift,stop⟩:Np.Hist)=h:=⟨_,rfl⟩;rw[hr];have HR:Hid (Np.yes (((Np.tk iG/\Np.VWorld ⟨hs,[],⟨s.data.toList,ty,life,d⟩,hints⟩)/\∀ c∈l,Np.CopyOk iG c)/\l.Pairwise λc d=>¬ Np.gE c d)=r):=jq (by rw[<-hr,<-rT]; exact (Np.uB (aMY (h:=⟨hs,l,⟨s.data.toList,ty,life,d⟩,hints,drift,stop⟩))).symm);have jG:Hid (Np.tk iG↔(1<=stop/\stop<=10000000)/\(0<=drift/\drift<=1000)):=jq (by rw[<-rT]; exact Iff.rfl);have ji:Hid (∀ c,Np.CopyOk iG c↔(0<=c.host/\c.host<hs.length)/\(0<=c.frm/\c.frm<c.til/\c.til<=stop)/\Np.VZone c.zone):=jq (λc=>by rw[<-rT]; exact⟨λh=>⟨h.host,h.times,h.zone⟩,λh=>⟨h.1,h.2.1,h.2.2⟩⟩);have HH:=jq hh;have HD:=jq hd;have qg:=jq hdd;have qi:=jq pB;have f9:=jq hR;have HZ:=jq hz;obtain⟨A1,c1,rfl,_,_⟩:=ah hh;obtain⟨A2,c2,rfl,_,_⟩:=ah hd;obtain⟨A3,c3,rfl,_,_⟩:=ah hdd;obtain⟨A4,c4,rfl,_,_⟩:=ah pB;clear hr rT hd hR hh hdd pB hz;obtain⟨n1,aO⟩:∃ n,hs.length=n:=⟨_,rfl⟩;obtain⟨n2,be⟩:∃ n,l.length=n:=⟨_,rfl⟩;obtain⟨n3,cP⟩:∃ n,d.length=n:=⟨_,rfl⟩;obtain⟨n4,cW⟩:∃ n,hints.length=n:=⟨_,rfl⟩;rw[aO] at HH ji |-;rw[be] at HD hl |-;rw[cP] at qg |-;rw[cW] at qi |-;have HN:=jq (And.intro aO (And.intro be (And.intro cP cW)));clear aO be cP cW;obtain⟨W1,ai⟩:∃ W1,w.alloc (.cells #[.slice A1 n1 c1,.slice A2 n2 c2,.string s,.int .i64 ty,.int .i64 life,.slice A3 n3 c3,.slice A4 n4 c4,.int .i64 drift,.int .i64 stop] 29)=W1:=⟨_,rfl⟩;have aG:Below w.heap.size w W1:=by rw[<-ai]; exact (vQ _ _).alloc (bQ _) _
 have jA:W1.heap.size=w.heap.size+1:=by rw[<-ai]; simp
 obtain⟨X,hX⟩:∃ X,w.heap.size=X:=⟨_,rfl⟩;have lP:=jq hX;have k0:W1.cell? ⟨X,0,none⟩=some (.slice A1 n1 c1):=by rw[<-ai,<-hX]; simp[go_sem]
 have k1:W1.cell? ⟨X,1,none⟩=some (.slice A2 n2 c2):=by rw[<-ai,<-hX]; simp[go_sem]
 have k2:W1.cell? ⟨X,2,none⟩=some (.string s):=by rw[<-ai,<-hX]; simp[go_sem]
 have k3:W1.cell? ⟨X,3,none⟩=some (.int .i64 ty):=by rw[<-ai,<-hX]; simp[go_sem]
 have k4:W1.cell? ⟨X,4,none⟩=some (.int .i64 life):=by rw[<-ai,<-hX]; simp[go_sem]
 have k5:W1.cell? ⟨X,5,none⟩=some (.slice A3 n3 c3):=by rw[<-ai,<-hX]; simp[go_sem]
 have k6:W1.cell? ⟨X,6,none⟩=some (.slice A4 n4 c4):=by rw[<-ai,<-hX]; simp[go_sem]
 have k7:W1.cell? ⟨X,7,none⟩=some (.int .i64 drift):=by rw[<-ai,<-hX]; simp[go_sem]
 have k8:W1.cell? ⟨X,8,none⟩=some (.int .i64 stop):=by rw[<-ai,<-hX]; simp[go_sem]
 rw[hX] at aG jA HH HD qg qi f9;rw[hX];have aB:=jq aG;clear aG;go_enter func16,ntmps16;by_cases g1:stop<1
 ·have dg1:decide (stop<1)=true:=uQ g1;have HX:Hid (r=false):=jq (by rw[<-HR.out]; exact Np.aJ λq=>by have:=jG.out.1 q.1.1.1; omega);clear g1;go_wp2_with fail;go_ret;exact⟨ae HX.out.symm,aB.out⟩
 have dg1:decide (stop<1)=false:=tQ g1;by_cases g2:10000000<stop
 ·have dg2:decide (10000000<stop)=true:=uQ g2;have HX:Hid (r=false):=jq (by rw[<-HR.out]; exact Np.aJ λq=>by have:=jG.out.1 q.1.1.1; omega);clear g2;go_wp2_with fail;go_ret;exact⟨ae HX.out.symm,aB.out⟩
 have dg2:decide (10000000<stop)=false:=tQ g2;by_cases g3:drift<0
 ·have dg3:decide (drift<0)=true:=uQ g3;have HX:Hid (r=false):=jq (by rw[<-HR.out]; exact Np.aJ λq=>by have:=jG.out.1 q.1.1.1; omega);clear g3;go_wp2_with fail;go_ret;exact⟨ae HX.out.symm,aB.out⟩
 have dg3:decide (drift<0)=false:=tQ g3;by_cases g4:1000<drift
 ·have dg4:decide (1000<drift)=true:=uQ g4;have HX:Hid (r=false):=jq (by rw[<-HR.out]; exact Np.aJ λq=>by have:=jG.out.1 q.1.1.1; omega);clear g4;go_wp2_with fail;go_ret;exact⟨ae HX.out.symm,aB.out⟩
 have dg4:decide (1000<drift)=false:=tQ g4;have d5:decide (4000<(n2:Int))=false:=tQ (by omega);have F3:Hid (Np.tk iG):=jq (jG.out.2 (by omega));clear g1 g2 g3 g4;go_wp2_with fail;refine (aOQ _ hs _ [] s am ty life _ d _ hints (by simp) (by simp) _ ((f9.out.keep aB.out).more (by omega)) ((HH.out.keep fw aB.out).more kP (by omega)) ⟨none,0,rfl,by simp,by simp,λi x hx=>by simp at hx⟩ ((qg.out.keep cB aB.out).more cZ (by omega)) ((qi.out.keep kR aB.out).more sI (by omega))).mono ?_;rintro e w2 ⟨rfl,ab⟩;have aM:=ab.size;have sU:Hid (q9 w2 X (.slice A1 n1 c1) (.slice A2 n2 c2) stop):=jq (q9.keep ⟨k0,k1,k8,by omega⟩ ab (by omega));have al:=jq (aB.out.trans (ab.mono (by omega)));clear ab ai k0 k1 k2 k3 k4 k5 k6 k7 k8;have k0:=sU.out.c0;have k1:=sU.out.c1;have I0:=sU.out.lt;obtain⟨b1,ap⟩:∃ b1,Np.yes (Np.VWorld ⟨hs,[],⟨s.data.toList,ty,life,d⟩,hints⟩)=b1:=⟨_,rfl⟩;rw[ap];have th:=jq ap;clear ap;have wL:∀ (w:World),(Instr.makeMap 110 none).run prog w = .ok (.map (some w.heap.size)) (w.alloc (.map #[] 0)):=λw=>by
  simp[Instr.makeMap,Result.andThen]
 cases b1 with
 | false=>
  have HX:Hid (r=false):=jq (by rw[<-HR.out]; exact Np.aJ λq=>by have:=Np.bM q.1.1.2; rw[th.out] at this; cases this);go_wp2_with fail;go_ret;exact⟨ae HX.out.symm,al.out⟩
 | true=>
  go_wp2_with fail;obtain⟨wm,Cp⟩:∃ wm,w2.alloc (.map #[] 0)=wm:=⟨_,rfl⟩;obtain⟨X1,pw⟩:∃ X1,w2.heap.size=X1:=⟨_,rfl⟩;have uX:Hid (MapX (X1+1) X1 [] wm):=jq (by rw[<-Cp,<-pw]; exact MapX.made _ _);have hzm:wm.heap.size=X1+1:=by rw[<-Cp,<-pw]; simp
  have tE:Below X1 w2 wm:=by rw[<-Cp,<-pw]; exact (vQ _ _).alloc (bQ _) _
  have IX:X<X1:=by omega
  have Gc:Hid (q9 wm X (.slice A1 n1 c1) (.slice A2 n2 c2) stop):=jq (sU.out.keep tE IX);have Ge:=jq (al.out.trans (tE.mono (by omega)));rw[Cp,pw];clear Cp pw tE k0 k1;have gl:Hid (l.length=n2):=jq HN.out.2.1;go_loopw [47] (λi wr=>∃ (k:Nat) (xs:List fi),k<=n2/\i = .int .i64 k/\X1<wr.heap.size/\Hid (Below X1 wm wr)/\Hid (MapX (X1+1) X1 xs wr)/\Hid (Np.GrpI (xs.map λx=>(x.1,x.2.1)) (l.take k))/\Hid (∀ c∈l.take k,Np.CopyOk iG c)) (λi _=>n2 - (intOf i).toNat)
  case atStart=>exact⟨0,[],jQ _,rfl,by omega,jq (vQ _ _),uX,jq Np.GrpI.nil,jq (by simp)⟩
  case round=>
   obtain⟨k,xs,hk,rfl,dz,bO,HM,HG,bR⟩:=hrel;have HB:=jq (Ge.out.trans (bO.out.mono (by omega)));have gk:=jq (Gc.out.keep bO.out IX);have k0:=gk.out.c0;have k8:=gk.out.c8;by_cases aa:k<n2
   ·obtain⟨x,ac⟩:∃ x,l[k]?=some x:=⟨_,aQ (by rw[gl.out]; exact aa)⟩;obtain⟨b,o,sn,vz,rfl,bS,av,cA,eq,f0,f1,f2,f3,f4⟩:=rI (HD.out.keep fu HB.out) ac;obtain⟨Az,cz,rfl,_,_⟩:=ah eq;obtain⟨nz,kC⟩:∃ nz,x.zone.sets.length=nz:=⟨_,rfl⟩;rw[kC] at f4;have HT:Hid (l.take (k+1)=l.take k ++ [x]):=jq (by
     obtain⟨hl,he⟩:=cQ.1 ac;rw[fQ hl,he])
    have HF:Hid (¬ Np.CopyOk iG x->r=false):=jq (λh=>by rw[<-HR.out]; exact Np.aJ λq=>h (q.1.2 x (gQ ac)));have AI:Hid (x.zone.sets.length<=20000):=jq (HZ.out x (gQ ac));have aH:=jq av;have jk:Hid (SlR bC 5 wr wr.heap.size (.slice Az nz cz) x.zone.sets):=jq (by rw[<-kC]; exact eq.more bN (by omega));obtain⟨w3,eY⟩:∃ w3,wr.alloc (.cells #[.int .i64 x.host,.int .i64 x.frm,.int .i64 x.til,.string sn,.slice Az nz cz] 58)=w3:=⟨_,rfl⟩;have er:w3.heap.size=wr.heap.size+1:=by rw[<-eY]; simp
    have ag:Below wr.heap.size wr w3:=by rw[<-eY]; exact (vQ _ _).alloc (bQ _) _
    have p0:w3.cell? ⟨wr.heap.size,0,none⟩=some (.int .i64 x.host):=by rw[<-eY]; simp[go_sem]
    have p1:w3.cell? ⟨wr.heap.size,1,none⟩=some (.int .i64 x.frm):=by rw[<-eY]; simp[go_sem]
    have p2:w3.cell? ⟨wr.heap.size,2,none⟩=some (.int .i64 x.til):=by rw[<-eY]; simp[go_sem]
    have p3:w3.cell? ⟨wr.heap.size,3,none⟩=some (.string sn):=by rw[<-eY]; simp[go_sem]
    have p4:w3.cell? ⟨wr.heap.size,4,none⟩=some (.slice Az nz cz):=by rw[<-eY]; simp[go_sem]
    have q0:w3.cell? ⟨X,0,none⟩=some (.slice A1 n1 c1):=(ag.cell (by dsimp only; omega)).trans k0;have q8:w3.cell? ⟨X,8,none⟩=some (.int .i64 stop):=(ag.cell (by dsimp only; omega)).trans k8;have ar:=jq (HB.out.trans (ag.mono (by omega)));have Gg:=jq (bO.out.trans (ag.mono (by omega)));have qj:=jq (HM.out.keep ag);have mx:Hid (SlR bC 5 w3 w3.heap.size (.slice Az nz cz) x.zone.sets):=jq ((jk.out.keep aN ag).more bN ag.size);clear ac av eq kC ag jk;by_cases g1:x.host<0
    ·have dg1:decide (x.host<0)=true:=uQ g1;have HX:Hid (r=false):=jq (HF.out λh=>by have:=(ji.out x).1 h; omega);clear g1;go_wp2_with fail;go_ret;exact⟨ae HX.out.symm,ar.out⟩
    have dg1:decide (x.host<0)=false:=tQ g1;by_cases g2:(n1:Int)<=x.host
    ·have dg2:decide ((n1:Int)<=x.host)=true:=uQ g2;have HX:Hid (r=false):=jq (HF.out λh=>by have:=(ji.out x).1 h; omega);clear g2;go_wp2_with fail;go_ret;exact⟨ae HX.out.symm,ar.out⟩
    have dg2:decide ((n1:Int)<=x.host)=false:=tQ g2;by_cases g3:x.frm<0
    ·have dg3:decide (x.frm<0)=true:=uQ g3;have HX:Hid (r=false):=jq (HF.out λh=>by have:=(ji.out x).1 h; omega);clear g3;go_wp2_with fail;go_ret;exact⟨ae HX.out.symm,ar.out⟩
    have dg3:decide (x.frm<0)=false:=tQ g3;by_cases g4:x.til<=x.frm
    ·have dg4:decide (x.til<=x.frm)=true:=uQ g4;have HX:Hid (r=false):=jq (HF.out λh=>by have:=(ji.out x).1 h; omega);clear g4;go_wp2_with fail;go_ret;exact⟨ae HX.out.symm,ar.out⟩
    have dg4:decide (x.til<=x.frm)=false:=tQ g4;by_cases g5:stop<x.til
    ·have dg5:decide (stop<x.til)=true:=uQ g5;have HX:Hid (r=false):=jq (HF.out λh=>by have:=(ji.out x).1 h; omega);clear g5;go_wp2_with fail;go_ret;exact⟨ae HX.out.symm,ar.out⟩
    have dg5:decide (stop<x.til)=false:=tQ g5;have zP:Hid ((0<=x.host/\x.host<n1)/\(0<=x.frm/\x.frm<x.til/\x.til<=stop)):=jq (by omega);clear g1 g2 g3 g4 g5;go_wp2_with fail;refine (Sd sn cA _ x.zone.sets AI.out w3 ((f9.out.keep ar.out).more (by omega)) mx.out).mono ?_;rintro e w4 ⟨rfl,an⟩;have gC:w3.heap.size<=w4.heap.size:=an.size;have s0:w4.cell? ⟨wr.heap.size,0,none⟩=some (.int .i64 x.host):=(an.cell (by dsimp only; omega)).trans p0;have s1:w4.cell? ⟨wr.heap.size,1,none⟩=some (.int .i64 x.frm):=(an.cell (by dsimp only; omega)).trans p1;have s2:w4.cell? ⟨wr.heap.size,2,none⟩=some (.int .i64 x.til):=(an.cell (by dsimp only; omega)).trans p2;have s3:w4.cell? ⟨wr.heap.size,3,none⟩=some (.string sn):=(an.cell (by dsimp only; omega)).trans p3;have s4:w4.cell? ⟨wr.heap.size,4,none⟩=some (.slice Az nz cz):=(an.cell (by dsimp only; omega)).trans p4;have bq:=jq (ar.out.trans (an.mono (by omega)));have Gh:=jq (Gg.out.trans (an.mono (by omega)));have GV:=jq (qj.out.keep an);clear an p0 p1 p2 p3 p4 eY f0 f1 f2 f3 f4 q0 q8 k0 k8 qj;obtain⟨rz,fq⟩:∃ rz,Np.yes (Np.VZone ⟨sn.data.toList,x.zone.sets⟩)=rz:=⟨_,rfl⟩;rw[fq];have gX:=jq fq;clear fq
    cases rz with
    | false=>
     have HX:Hid (r=false):=jq (HF.out λh=>by
      have h1:=((ji.out x).1 h).2.2;have h2:x.zone=⟨sn.data.toList,x.zone.sets⟩:=by rw[aH.out]
      rw[h2] at h1;have h3:=Np.bM h1;rw[gX.out] at h3
      cases h3)
     go_wp2_with fail;go_ret;exact⟨ae HX.out.symm,bq.out⟩
    | true=>
     have oY:Hid (Np.CopyOk iG x):=jq ((ji.out x).2 ⟨zP.out.1,zP.out.2,by
      have h2:x.zone=⟨sn.data.toList,x.zone.sets⟩:=by rw[aH.out]
      rw[h2];exact Np.fz.1 gX.out⟩)
     have G9:Hid (∀ c∈l.take (k+1),Np.CopyOk iG c):=jq (λc hc=>by
      rw[HT.out] at hc;rcases List.mem_append.1 hc with hc | hc
      ·exact bR.out c hc
      ·rw[List.mem_singleton] at hc; subst hc; exact oY.out)
     have pa:Hid (Np.fT x=(x.host,sn.data.toList)):=jq (by unfold Np.fT; rw[aH.out]);obtain⟨w5,aP⟩:∃ w5,w4.alloc (.cells #[.int .i64 x.host,.string sn] 112)=w5:=⟨_,rfl⟩;obtain⟨w6,bK⟩:∃ w6,w5.alloc (.cells #[.int .i64 x.frm,.int .i64 x.til] 114)=w6:=⟨_,rfl⟩;have me:w5.heap.size=w4.heap.size+1:=by rw[<-aP]; simp
     have il:w6.heap.size=w5.heap.size+1:=by rw[<-bK]; simp
     have aF:Below w4.heap.size w4 w5:=by rw[<-aP]; exact (vQ _ _).alloc (bQ _) _
     have aU:Below w4.heap.size w4 w6:=by rw[<-bK]; exact aF.alloc (by omega) _
     have t0:w5.cell? ⟨w4.heap.size,0,none⟩=some (.int .i64 x.host):=by rw[<-aP]; simp[go_sem]
     have t1:w5.cell? ⟨w4.heap.size,1,none⟩=some (.string sn):=by rw[<-aP]; simp[go_sem]
     have u1:w5.cell? ⟨wr.heap.size,1,none⟩=some (.int .i64 x.frm):=(aF.cell (by dsimp only; omega)).trans s1;have u2:w5.cell? ⟨wr.heap.size,2,none⟩=some (.int .i64 x.til):=(aF.cell (by dsimp only; omega)).trans s2;have y0:w6.cell? ⟨w5.heap.size,0,none⟩=some (.int .i64 x.frm):=by rw[<-bK]; simp[go_sem]
     have y1:w6.cell? ⟨w5.heap.size,1,none⟩=some (.int .i64 x.til):=by rw[<-bK]; simp[go_sem]
     have TP:=jq (GV.out.keep aU);have ca:=jq (bq.out.trans (aU.mono (by omega)));have SK:=jq (Gh.out.trans (aU.mono (by omega)));have jJ:Hid (∀ (j:Nat) (g:List Np.Span) (v:Value),xs[j]?=some ((x.host,sn.data.toList),g,v)->g.length<=500):=jq (λj g v hj=>by
      have h1:=HG.out.each ((x.host,sn.data.toList),g) (List.mem_map.2 ⟨_,gQ hj,rfl⟩);simp only at h1;rw[h1];unfold Np.fF;rw[List.length_map];refine yQ (List.length_filter_le _ _) ?_;rw[List.length_take,gl.out]; omega)
     clear aF aU;go_wp2_with (first
      | (refine aPY _ rfl _ _ rfl (X1+1) X1 xs rfl TP.out (Nat.lt_succ_self _) (x.host,sn.data.toList) rfl ?_; intro w7 j7 g7 v7 xs7 Je OT O3 Ch; have dL:=jq Je; have sZ:=jq OT; have GW:=jq O3; have UE:=jq Ch; have y0':w7.cell? ⟨w5.heap.size,0,none⟩=some (.int .i64 x.frm):=(Ch.cell (by dsimp only; omega)).trans y0; have y1':w7.cell? ⟨w5.heap.size,1,none⟩=some (.int .i64 x.til):=(Ch.cell (by dsimp only; omega)).trans y1; have mL:w7.heap.size=w6.heap.size:=Ch.size; have s6:Hid (g7.length<=100000):=jq (by rcases Je with ⟨_,hj⟩ | ⟨_,_,_,rfl,_⟩; exact yQ (jJ.out _ _ _ hj) (by omega); simp); clear Je OT O3 Ch)
      | (at_builtin; refine R1 _ rfl _ _ rfl (X1+1) v7 g7 rfl (GW.out.row _ (gQ sZ.out)) w5.heap.size x.frm x.til (by simp[go_sem]) y0' y1' s6.out (by omega) ?_; intro v8 w8 bY aW Ol; have H8:=jq (And.intro bY (And.intro aW Ol)); have sC:w7.heap.size<=w8.heap.size:=aW.size; clear bY aW Ol)
      | (refine aPX _ w7 rfl _ _ _ rfl (X1+1) X1 xs7 GW.out (Nat.lt_succ_self _) j7 (x.host,sn.data.toList) g7 (g7 ++ [⟨x.frm,x.til⟩]) v7 v8 sZ.out H8.out.2.1 H8.out.1 H8.out.2.2 rfl rfl rfl ?_; intro w9 O4 PB; have H9:=jq (And.intro O4 PB); clear O4 PB))
     go_roundw
     case rel=>
      have e9:Below X1 wm w9:=((SK.out.trans (UE.out.below (bQ _))).grown H8.out.2.1 (by omega) (λq hq=>by have:=(World.ownsRow.lt (GW.out.row _ (gQ sZ.out)) q hq).1; omega)).trans (H9.out.2.below (bQ _));refine⟨k+1,_,by omega,by go_num,by rw[H9.out.2.size]; omega,jq e9,jq H9.out.1,jq ?_,G9⟩;rw[HT.out];have hc:=dL.out;rw[<-pa.out] at hc
      have:=Xo (v':=v8) HG.out hc
      rw[pa.out] at this;exact this
     case measure=>simp[intOf] <;> omega
   ·have gY:Hid (l.take k=l):=jq (kQ (by rw[gl.out]; omega));have zO:Hid (Np.GrpI (xs.map λx=>(x.1,x.2.1)) l):=jq (by have:=HG.out; rwa [gY.out] at this);have Ab:Hid (∀ c∈l,Np.CopyOk iG c):=jq (by have:=bR.out; rwa [gY.out] at this);have k1:=gk.out.c1;clear HG bR gY k0 k8;go_wp2_with (at_range; refine aQZ _ rfl _ rfl (X1+1) X1 xs rfl HM.out ?_; intro w10 Po Ou EV; have Mp:=jq Po; have gF:=jq (bO.out.trans (Ou.mono (by omega))); clear Po Ou);go_frame;obtain⟨I,hI⟩:∃ I,wr.heap.size=I:=⟨_,rfl⟩;rw[hI] at Mp EV;rw[hI];have aVJ:X1<I:=by omega
    have L4:Hid (∀ x∈xs,x.2.1.length<=500/\∀ t∈x.2.1,t.frm<t.til):=jq (λx hx=>by
     have h1:=zO.out.each (x.1,x.2.1) (List.mem_map.2 ⟨x,hx,rfl⟩);simp only at h1;rw[h1];refine⟨?_,λt ht=>?_⟩
     ·unfold Np.fF;rw[List.length_map];refine yQ (List.length_filter_le _ _) ?_;rw[gl.out]; omega
     ·obtain⟨c,hc,rfl⟩:=List.mem_map.1 ht;exact (((ji.out c).1 (Ab.out c (List.mem_filter.1 hc).1)).2.1).2.1)
    have qZ:Hid ((l.Pairwise λc d=>¬ Np.gE c d)↔∀ x∈xs,x.2.1.Pairwise λa b=>¬ Np.og a b):=jq (zO.out.ok.trans ⟨λh x hx=>h (x.1,x.2.1) (List.mem_map.2 ⟨x,hx,rfl⟩),λh y hy=>by
     obtain⟨x,hx,rfl⟩:=List.mem_map.1 hy;exact h x hx⟩)
    have aSQ:=Gc;clear gk HM bO HB hI dz k1;go_loopw [] (λwq=>∃ (seen:Array Nat) (xs':List fi),I<wq.heap.size/\Hid (Below X1 wm wq)/\Hid (RangeX (X1+1) X1 I xs' seen wq)/\Hid (xs'.length=xs.length/\∀ (j:Nat) (x':fi),xs'[j]?=some x'->∃ x:fi,xs[j]?=some x/\x'.2.1.Perm x.2.1)/\Hid (∀ (j:Nat) (x:fi),seen.contains j=true->xs[j]?=some x->x.2.1.Pairwise λa b=>¬ Np.og a b)) (λwq=>wq.rangeLeft X1 I)
    case atStart=>exact⟨#[],xs,by omega,gF,Mp,jq ⟨rfl,λj x hx=>⟨x,hx,List.Perm.refl _⟩⟩,jq (by simp)⟩
    case round=>
     obtain⟨seen,xs',Ioo,Gf,Dj,Dl,Mn⟩:=hrel;have SG:=jq (Gc.out.keep Gf.out IX);have k1:=SG.out.c1;go_wp2_with (at_next; refine aQQ _ rfl _ rfl (X1+1) X1 I xs' seen rfl Dj.out (λnA=>?_) (λj p g v w11 hj JN EO JH hen=>?_))
     ·have qk:Hid (l.Pairwise λc d=>¬ Np.gE c d):=jq (qZ.out.2 λx hx=>by
       obtain⟨j,hj,rfl⟩:=nQ.1 hx;exact Mn.out j _ (nA j (by rw[Dl.out.1]; exact hj)) (aQ hj))
      have kl:=jq (Ge.out.trans (Gf.out.mono (by omega)));refine (RJ _ l (by rw[gl.out]; omega) _ ((HD.out.keep fu kl.out).more jD (by omega))).mono ?_;rintro e w13 ⟨v13,rfl,B0,Bv⟩;obtain⟨A13,c13,rfl⟩:=cE.form B0;have mh:=jq (kl.out.trans (Bv.mono (by omega)));have JF:(Np.cx (l.map (·.zone.apex))).length<=500:=by
       have:=Np.zp (l.map (·.zone.apex))
       rw[List.length_map,gl.out] at this;omega
      obtain⟨m13,BV⟩:∃ m,(Np.cx (l.map (·.zone.apex))).length=m:=⟨_,rfl⟩;rw[BV] at JF |-;have d13:decide ((m13:Int)<=500)=true:=uQ (by omega);clear B0 Bv BV;go_wp2_with fail;go_ret;exact⟨ae (by rw[<-HR.out]; exact (Np.bM ⟨⟨⟨F3.out,Np.fz.1 th.out⟩,Ab.out⟩,qk.out⟩).symm),mh.out⟩
     ·obtain⟨xj,Kb,JL⟩:=Dl.out.2 j _ hj;have hlg:g.length=xj.2.1.length:=JL.length_eq;have YZ:=(L4.out xj (gQ Kb)).1;have Mi:=jq JL;have Dp:=jq Kb;have HJ:=jq hj;have Hh:=jq JN;have aTK:=jq EO;have aSX:=jq JH;have aUX:I<w11.heap.size:=by rw[EO.size]; exact Ioo
      have mU:Hid (Below X1 wm w11):=jq (Gf.out.trans (EO.below (by omega)));refine (Rx _ YO (enters_of func57 (by kernel_rfl) rfl) (X1+1) v g w11 (Hh.out.mapX.row _ (gQ (by exact HJ.out))) (by omega)).mono ?_;rintro e w12 ⟨rfl,ys,hp,uc,ED,yx⟩;have Up:Hid (RangeX (X1+1) X1 I (xs'.set j (p,ys,v)) (seen.push j) w12):=jq (Hh.out.changed (Nat.lt_succ_self _) HJ.out yx ED);have lM:Hid (Np.Id ys↔xj.2.1.Pairwise λa b=>¬ Np.og a b):=jq (Np.azX (hp.trans Mi.out) uc (L4.out xj (gQ Dp.out)).2);have Mm:Hid (ys.Perm xj.2.1):=jq (hp.trans Mi.out);have qN:∀ q,v.ownBlock=some q->X1+1<=q:=λq hq=>(World.ownsRow.lt (Hh.out.mapX.row _ (gQ (by exact HJ.out))) q hq).1;have jF:Hid (Below X1 wm w12):=jq (mU.out.grown yx (by omega) (λq hq=>by have:=qN q hq; omega));have Zs:w12.rangeLeft X1 I<wr.rangeLeft X1 I:=by
       have e:w12.rangeLeft X1 I=w11.rangeLeft X1 I:=QU (yx.block X1 (by omega) (λe=>by have:=qN _ e.symm; omega)) (yx.block I (by omega) (λe=>by have:=JN.row _ (gQ hj); exact this e.symm));rw[e]; exact JH
      have PU:I<w12.heap.size:=by have:=yx.size; omega
      have Ms:Hid (SlR fk 2 w12 w12.heap.size v ys):=jq (aK.slr ED (by have:=hp.length_eq; omega));have Tj:Hid (¬ Np.Id ys->r=false):=jq (λh=>by
       rw[<-HR.out];refine Np.aJ λq=>h (lM.out.2 ?_);exact (qZ.out.1 q.2) xj (gQ Dp.out))
      have ZV:ys.length<=500:=by rw[Mm.out.length_eq]; exact YZ
      obtain⟨Av,cv,rfl⟩:=aK.form ED;obtain⟨wo,rfl⟩:∃ wo,wo=wr:=⟨_,rfl⟩;clear hp uc ED yx JN EO JH hen hj Kb JL qN k1;obtain⟨ny,rY⟩:∃ ny,ys.length=ny:=⟨_,rfl⟩;rw[rY] at ZV Ms;rw[rY];have mv:=jq rY;clear rY;go_wp2_with fail;go_loopw [9] (λi wi=>∃ q:Nat,1<=q/\(q<=ny\/q=1)/\i = .int .i64 q/\Hid (Below w12.heap.size w12 wi)/\Hid (∀ t (h:t+1<ys.length),t+1<q->ys[t].til<=ys[t+1].frm)) (λi _=>ny - (intOf i).toNat)
      case atStart=>exact⟨1,bQ _,.inr rfl,rfl,jq (vQ _ _),jq (λt h h2=>by omega)⟩
      case round=>
       obtain⟨q,EI,kG,rfl,cT,HQ⟩:=hrel;have um:=cT.out.size;by_cases Ey:q<ny
       ·obtain⟨m,hm⟩:∃ m,q=m+1:=⟨q - 1,by omega⟩;have rY:=mv.out;have yE:m<ys.length:=by omega
        have Pm:q<ys.length:=by omega
        obtain⟨a,ha⟩:∃ a,ys[m]?=some a:=⟨_,aQ yE⟩;obtain⟨b,hb⟩:∃ b,ys[q]?=some b:=⟨_,aQ Pm⟩;have CZ:=Ms.out.keep eZ cT.out;obtain⟨bb,oo,rfl⟩:=KK (k:=m) CZ yE;obtain⟨bZ,I4⟩:=FD CZ ha;obtain⟨_,I5⟩:=FD CZ hb;have a0:=I4.c0;have a1:=I4.c1;have b0:=I5.c0;have b1:=I5.c1;have bD:IntKind.i64.wrap ((q:Int) - 1)=(m:Int):=by rw[show (q:Int) - 1=m by omega]; simp[IntKind.wrap,IntKind.bits,IntKind.signed]; omega
        have i1:(0:Int)<=(q:Int):=by omega
        have i2:(q:Int)<(ny:Int):=by omega
        have i3:(0:Int)<=(m:Int):=by omega
        have i4:(m:Int)<(ny:Int):=by omega
        have i5:m<ny:=by omega
        have xz:Hid (b.frm<a.til->r=false):=jq (λaa=>Tj.out λnG=>by
         have h1:=nG m (by omega);obtain⟨e1,e2⟩:=cQ.1 ha;obtain⟨e3,e4⟩:=cQ.1 hb;subst hm;rw[e2,e4] at h1;omega)
        have LP:Hid (¬ b.frm<a.til->∀ t (h:t+1<ys.length),t+1<q+1->ys[t].til<=ys[t+1].frm):=jq (λqC t h h2=>by
         by_cases e:t=m
         ·subst e;obtain⟨e1,e2⟩:=cQ.1 ha;obtain⟨e3,e4⟩:=cQ.1 hb;subst hm;rw[e2,e4]; omega
         ·exact HQ.out t h (by omega))
        obtain⟨af,au⟩:=a;obtain⟨bf,bu⟩:=b;dsimp only at a0 a1 b0 b1 xz LP;clear ha hb CZ I4 I5 hm rY yE Pm bZ;by_cases rM:bf<au
        ·have dd:decide (bf<au)=true:=uQ rM;have HX:=jq (xz.out rM);have kl:=jq (Ge.out.trans ((jF.out.trans (cT.out.mono (by omega))).mono (by omega)));clear rM;go_wp2_with fail;go_quiet (fail);go_wp2_with fail;go_ret;exact⟨ae HX.out.symm,below_drewN kl.out _⟩
        ·have dd:decide (bf<au)=false:=tQ rM;have HX:=jq (LP.out rM);clear rM;go_wp2_with fail;go_quiet (fail);go_wp2_with fail;go_roundw
         case rel=>exact⟨q+1,by omega,by omega,by go_num,jq (below_drewN cT.out _),HX⟩
         case measure=>simp[intOf] <;> omega
       ·have qk:Hid (xj.2.1.Pairwise λa b=>¬ Np.og a b):=jq (lM.out.1 λt h=>HQ.out t h (by have:=mv.out; omega));go_wp2_with fail;go_roundw
        case rel=>
         refine⟨seen.push j,_,by omega,jq (jF.out.trans (cT.out.mono (by omega))),jq (Up.out.keep cT.out),jq ⟨by rw[List.length_set]; exact Dl.out.1,λj' x' hx'=>?_⟩,jq λj' x hs hx=>?_⟩
         ·rw[List.getElem?_set] at hx';split at hx'
          ·rename_i e; subst e;rw[Qb (cQ.1 HJ.out).1] at hx'
           cases hx'
           exact⟨xj,Dp.out,Mm.out⟩
          ·exact Dl.out.2 j' x' hx'
         ·rw[Array.contains_push,Bool.or_eq_true] at hs;rcases hs with hs | hs
          ·exact Mn.out j' x hs hx
          ·have e:j'=j:=by simpa using hs
           subst e
           have:=Dp.out
           rw[this] at hx
           cases hx
           exact qk.out
        case measure=>
         have e:=QU (w:=w12) (w':=wr) (r:=X1) (I:=I) (cT.out.block _ (by omega)) (cT.out.block _ (by omega));rw[e]; exact Zs
end
section
open Go.RowKit Go.Sort Go.Shelf
theorem Xl{W w':World}(h:D.Below W.heap.size W w'):∃ q os,w'=grow (W.drewN q) os:=by
 refine⟨w'.drawn - W.drawn,w'.heap.extract W.heap.size w'.heap.size,?_⟩;have hh:w'.heap=W.heap++w'.heap.extract W.heap.size w'.heap.size:=by
  apply Array.ext_getElem?;intro j;rcases Nat.lt_or_ge j W.heap.size with h1 | h1
  ·rw[Array.getElem?_append_left h1]; exact h.block j h1
  ·rw[Array.getElem?_append_right h1,Array.getElem?_extract];split
   ·congr 1; omega
   ·rw[Array.getElem?_eq_none (by omega)]
 have hd:w'.drawn=W.drawn+(w'.drawn - W.drawn):=by have:=h.drawn; omega
 have h1:=h.os;have h2:=h.tape;have h3:=h.output
 cases w'
 cases W
 simp only[grow,World.drewN,World.mk.injEq] at *;exact⟨hh,h2,hd,h1,h3⟩
abbrev VN:={ x:List UInt8 // Np.aD x=true }
instance:Inhabited VN:=⟨⟨[46],by decide⟩⟩
def qv(x:VN):Value:=aA x.1
def ll(x y:VN):Int:=Np.aI x.1 y.1
theorem aJQ:SWO (ltOf ll) where
 irrefl x:=by unfold ltOf ll; rw[Np.fd.self]; rfl
 trans x y z h1 h2:=by
  unfold ltOf ll at *;simp only[Qa] at *;exact Np.fd.trans _ _ _ h1 h2
 ntrans x y z h1 h2:=by
  unfold ltOf ll at *;simp only[decide_eq_false_iff_not] at *;intro h3;rcases Int.lt_trichotomy (Np.aI x.1 y.1) 0 with h4 | h4 | h4
  ·exact h1 h4
  ·have:=Np.fd.zero _ _ h4; rw[this] at h3; exact h2 h3
  ·have:=Np.fd.trans _ _ _ (Np.fd.anti' _ _ h4) h3
   exact h2 this
theorem aJY(x y:VN)(h1:ltOf ll x y=false)(h2:ltOf ll y x=false):x=y:=by
 unfold ltOf ll at *;simp only[decide_eq_false_iff_not] at *;apply Subtype.ext;rcases Int.lt_trichotomy (Np.aI x.1 y.1) 0 with h4 | h4 | h4
 ·exact absurd h4 h1
 ·exact Np.fd.zero _ _ h4
 ·exact absurd (Np.fd.anti' _ _ h4) h2
theorem RE{x:List UInt8}(h:Np.aD x=true):(⟨x.toArray⟩:ByteArray).size<=140737488355328:=by
 have:=sO h
 have e:(⟨x.toArray⟩:ByteArray).size=x.length:=by rw[<-aT]
 omega
theorem aRX(x y:VN)(w:World) :
 Calls prog 52 #[qv x,qv y] w λe w'=>e = .returned (.int .i64 (ll x y))/\D.Below w.heap.size w w':=by
 have hc:=D.compare_any ⟨x.1.toArray⟩ ⟨y.1.toArray⟩ (RE x.2) (RE y.2) w;have e1:(⟨x.1.toArray⟩:ByteArray).data.toList=x.1:=rfl;have e2:(⟨y.1.toArray⟩:ByteArray).data.toList=y.1:=rfl;have e3:D.cmpVal x.1 y.1 = .tuple #[.int .i64 (ll x y),.int .i64 0]:=by unfold D.cmpVal; rw[x.2,y.2]; rfl
 rw[e1,e2,e3] at hc;have HC:=jq hc;clear hc e1 e2 e3;unfold qv aA;generalize ll x y=z at HC |-;go_enter func52,ntmps52;go_wp2_with (go_at_call 53; refine HC.out.mono ?_; rintro e w2 ⟨rfl,ab⟩; have al:=jq ab; clear ab);go_ret;exact⟨rfl,al.out⟩
theorem Yt(enc:VN->Value){w:World}{g n:Nat}{os:Array Obj}{cur:Array Value}{e:TypeId}{fr:Nat×Nat}(d:Array VN)(hb:w.heap[g]?=some (.cells cur e fr)) :
 (sortWorld enc w g 0 n d os).heap[g]?=some (.cells (putCells enc 0 d cur) e fr):=by
 have hl:g<w.heap.size:=(eQ.1 hb).1;unfold sortWorld;rw[heap_grow_old _ _ (by simpa [putRow,mapBlock,Sort.ahead] using hl)];simp[putRow,mapBlock,Sort.ahead,Array.getElem?_modify,hb,onCells]
theorem Xm(enc:VN->Value){w:World}{g n:Nat}{os:Array Obj}(d:Array VN):w.grownBy (sortWorld enc w g 0 n d os) (some g):=by
 unfold sortWorld;refine⟨rfl,rfl,rfl,by simp,λq hq hne=>?_⟩;rw[heap_grow_old _ _ (by simpa using hq)]
 have:g≠q:=λe=>hne (by rw[e])
 simp[putRow,mapBlock,Sort.ahead,Array.getElem?_modify,this]
theorem aGZ(base:Nat)(v:Value)(xs:List (List UInt8))(w:World)(hown:cE base w v xs)(hv:∀ x∈xs,Np.aD x=true)(hl:xs.length<=100000) :
 Calls prog 51 #[v,.func (.func 52) #[] #[]] w λe w'=>e = .returned (.tuple #[])/\cE base w' v (Np.uw xs)/\w.grownBy w' v.ownBlock:=by
 obtain⟨ys,ZX⟩:∃ ys:List VN,ys.map (·.1)=xs:=⟨xs.pmap (λx h=>⟨x,h⟩) hv,by rw[List.map_pmap]; simp⟩;subst ZX;have hs:Np.uw (ys.map (·.1))=(ys.mergeSort λx y=>!(ltOf ll) y x).map (·.1):=by
  unfold Np.uw;exact (List.map_mergeSort (r:=λx y:VN=>!(ltOf ll) y x) (s:=λa b=>!decide (Np.aI b a<0)) (f:=λx:VN=>x.1) (l:=ys) (λa _ b _=>rfl)).symm
 have pL:w.ownsRow base 9 1 v (ys.map (·.1)).length ((ys.map (·.1)).map aA):=hown;rw[List.length_map] at pL hl;rcases pL.2 with ⟨rfl,h0⟩ | ⟨g,cap,cur,rfl,ej,hb,h1,h2,h3,h4⟩
 ·have:ys = []:=rQ h0
  subst this;refine (Tryz.slices_SortFunc_none (α:=VN) none 0 _ w).mono ?_;intro e w' hh;obtain⟨rfl,rfl⟩:=hh;exact⟨rfl,by rw[hs]; simpa using hown,⟨rfl,rfl,rfl,bQ _,λ_ _ _=>rfl⟩⟩
 have eg:∀ args w,(callFunc 52 args).run prog w = .ok (.enter 52 args) w:=enters_of func52 (by kernel_rfl) rfl;have hH:Holds qv w g 0 ys.toArray:=λj hj=>by
  have hj':j<ys.length:=by simpa using hj
  refine⟨?_,by simp[World.frozen?,hb]⟩
  have:=pL.cellAt j (by omega)
  rw[Nat.zero_add,this,List.getElem?_map,List.getElem?_map,aQ hj',getElem!_pos ys.toArray j hj];simp[qv]
 have BA:CmpLays1 prog 52 #[] qv ll g 0 ys.toArray.size w:=λm os dk _ x y=>(aRX x y _).mono λe w' ⟨he,hw⟩=>⟨he,Xl hw⟩;have Em:=Tryz.slices_SortFunc_total qv (λ_=>rfl) ll aJQ 52 #[] g 0 cap ys.toArray w eg BA hH (eQ.1 hb).1 (by simp; omega) aJY;have hlen:(ys.mergeSort λx y=>!(ltOf ll) y x).length=ys.length:=List.length_mergeSort _;rw[List.size_toArray] at Em;refine Em.mono λe w' ⟨he,n,os,hw⟩=>⟨he,?_,?_⟩
 ·subst hw;rw[hs];unfold cE;rw[List.length_map,hlen];refine⟨by simp,.inr ⟨g,cap,_,rfl,ej,Yt qv _ hb,h1,h2,by simp[putCells,h3],?_⟩⟩;apply List.ext_getElem?;intro j;by_cases hj:j<ys.length
  ·have tM:j<cur.size:=by omega
   have Es:j<(ys.mergeSort λx y=>!(ltOf ll) y x).length:=by omega
   rw[List.getElem?_take_of_lt (by omega),Array.getElem?_toList,List.getElem?_map,List.getElem?_map,aQ Es];simp[putCells,tM,hj,qv]
  ·rw[List.getElem?_take_eq_none (by omega),List.getElem?_eq_none (by simp; omega)]
 ·subst hw;exact Xm qv _
def bA(W:World)(B:Nat)(e:List Value)(h:Np.Hist):Prop:=∃ (hv cv:Value) (s:ByteArray) (dv dh:Value),e = [hv,cv,.string s,.int .i64 h.anchor.type,.int .i64 h.anchor.life,dv,dh,.int .i64 h.drift,.int .i64 h.stop]/\s.data.toList=h.anchor.name/\s.size<=140737488355328/\
 SlR gb 3 W B hv h.hosts/\SlR dD 5 W B cv h.copies/\SlR cr 3 W B dv h.anchor.data/\SlR gJ 1 W B dh h.hints
theorem da:dw bA:=λ_ _ _ _ _ ⟨hv,cv,s,dv,dh,h0,h1,h2,h3,h4,h5,h6⟩ hb=>⟨hv,cv,s,dv,dh,h0,h1,h2,h3.keep fw hb,h4.keep fu hb,h5.keep cB hb,h6.keep kR hb⟩
theorem de:dN bA:=λ_ _ _ _ _ ⟨hv,cv,s,dv,dh,h0,h1,h2,h3,h4,h5,h6⟩ hb=>⟨hv,cv,s,dv,dh,h0,h1,h2,h3.more kP hb,h4.more jD hb,h5.more cZ hb,h6.more sI hb⟩
def Np.sR(h:Np.Hist):Prop:=h.copies.length<=500/\∀ c∈h.copies,c.zone.sets.length<=20000
theorem Vi{h:Np.Hist}(v:Np.VHist h):∀ x∈Np.cx (h.copies.map (·.zone.apex)),Np.aD x=true:=λx hx=>by
 obtain⟨c,hc,rfl⟩:=List.mem_map.1 (Np.yW.1 hx);have h1:=(v.each c hc).zone.right;unfold Np.eN at h1;simp only[Bool.and_eq_true] at h1;exact h1.1.1
theorem aRY(e:List Value)(h:Np.Hist)(hf:Np.sR h)(w:World)(hR:iS w w.heap.size)(hh:bA w w.heap.size e h) :
 Calls prog 14 #[.agg e.toArray] w λe w'=>((Np.VHist h/\∃ v',e = .returned (.tuple #[v',.int .i64 0])/\cE w.heap.size w' v' (Np.apexes h.copies))\/(¬ Np.VHist h/\e = .returned (.tuple #[.slice none 0 0,.int .i64 1])))/\Below w.heap.size w w':=by
 obtain⟨hv,cv,s,dv,dh,rfl,h1,h2,h3,h4,h5,h6⟩:=hh;obtain⟨hosts,copies,⟨name,ty,life,data⟩,hints,drift,stop⟩:=h;dsimp only at h1 h3 h4 h5 h6;subst h1;have H3:=jq h3;have H4:=jq h4;have H5:=jq h5;have H6:=jq h6;have f9:=jq hR;have en:=jq hf;obtain⟨A1,c1,rfl,_,_⟩:=ah h3;obtain⟨A2,c2,rfl,_,_⟩:=ah h4;obtain⟨A3,c3,rfl,_,_⟩:=ah h5;obtain⟨A4,c4,rfl,_,_⟩:=ah h6;clear h3 h4 h5 h6 hR hf;obtain⟨r,hr⟩:∃ r,Np.yes (Np.VHist ⟨hosts,copies,⟨s.data.toList,ty,life,data⟩,hints,drift,stop⟩)=r:=⟨_,rfl⟩;have lO:=jq hr;obtain⟨n1,aO⟩:∃ n,hosts.length=n:=⟨_,rfl⟩;obtain⟨n2,be⟩:∃ n,copies.length=n:=⟨_,rfl⟩;obtain⟨n3,cP⟩:∃ n,data.length=n:=⟨_,rfl⟩;obtain⟨n4,cW⟩:∃ n,hints.length=n:=⟨_,rfl⟩;rw[aO] at H3 |-;rw[be] at H4 |-;rw[cP] at H5 |-;rw[cW] at H6 |-;clear hr aO be cP cW;obtain⟨X,hX⟩:∃ X,w.heap.size=X:=⟨_,rfl⟩;have lP:=jq hX;obtain⟨W1,ai⟩:∃ W1,w.alloc (.cells #[.slice A1 n1 c1,.slice A2 n2 c2,.string s,.int .i64 ty,.int .i64 life,.slice A3 n3 c3,.slice A4 n4 c4,.int .i64 drift,.int .i64 stop] 29)=W1:=⟨_,rfl⟩;have aG:Below w.heap.size w W1:=by rw[<-ai]; exact (vQ _ _).alloc (bQ _) _
 have jA:W1.heap.size=w.heap.size+1:=by rw[<-ai]; simp
 have k0:W1.cell? ⟨X,0,none⟩=some (.slice A1 n1 c1):=by rw[<-ai,<-hX]; simp[go_sem]
 have k1:W1.cell? ⟨X,1,none⟩=some (.slice A2 n2 c2):=by rw[<-ai,<-hX]; simp[go_sem]
 have k2:W1.cell? ⟨X,2,none⟩=some (.string s):=by rw[<-ai,<-hX]; simp[go_sem]
 have k3:W1.cell? ⟨X,3,none⟩=some (.int .i64 ty):=by rw[<-ai,<-hX]; simp[go_sem]
 have k4:W1.cell? ⟨X,4,none⟩=some (.int .i64 life):=by rw[<-ai,<-hX]; simp[go_sem]
 have k5:W1.cell? ⟨X,5,none⟩=some (.slice A3 n3 c3):=by rw[<-ai,<-hX]; simp[go_sem]
 have k6:W1.cell? ⟨X,6,none⟩=some (.slice A4 n4 c4):=by rw[<-ai,<-hX]; simp[go_sem]
 have k7:W1.cell? ⟨X,7,none⟩=some (.int .i64 drift):=by rw[<-ai,<-hX]; simp[go_sem]
 have k8:W1.cell? ⟨X,8,none⟩=some (.int .i64 stop):=by rw[<-ai,<-hX]; simp[go_sem]
 rw[hX] at aG jA H3 H4 H5 H6 f9 |-;have aB:=jq aG;clear aG;go_enter func14,ntmps14;go_wp2_with fail;refine (OS _ hosts _ copies s h2 ty life _ data _ hints drift stop en.out.1 en.out.2 _ ((f9.out.keep aB.out).more (by omega)) ((H3.out.keep fw aB.out).more kP (by omega)) ((H4.out.keep fu aB.out).more jD (by omega)) ((H5.out.keep cB aB.out).more cZ (by omega)) ((H6.out.keep kR aB.out).more sI (by omega))).mono ?_;rintro e w2 ⟨rfl,ab⟩;have aM:=ab.size;have m1:w2.cell? ⟨X,1,none⟩=some (.slice A2 n2 c2):=(ab.cell (by dsimp only; omega)).trans k1;have al:=jq (aB.out.trans (ab.mono (by omega)));clear ab ai k0 k1 k2 k3 k4 k5 k6 k7 k8 hX;rw[lO.out]
 cases r with
 | false=>
  have HN:Hid (¬ Np.VHist ⟨hosts,copies,⟨s.data.toList,ty,life,data⟩,hints,drift,stop⟩):=jq (λh=>by have:=Np.bM h; rw[lO.out] at this; cases this);go_wp2_with fail;go_ret2;exact⟨.inr ⟨HN.out,rfl⟩,al.out⟩
 | true=>
  have HV:Hid (Np.VHist ⟨hosts,copies,⟨s.data.toList,ty,life,data⟩,hints,drift,stop⟩):=jq (Np.fz.1 lO.out);have s5:Hid (copies.length<=500):=jq en.out.1;go_wp2_with fail;refine (RJ _ copies (by have:=s5.out; omega) _ ((H4.out.keep fu al.out).more jD (by omega))).mono ?_;rintro e w3 ⟨v3,rfl,kD,ag⟩;have er:=ag.size;have lL:=jq kD;have ar:=jq (al.out.trans (ag.mono (by omega)));clear kD ag;go_wp2_with fail;refine (aGZ w2.heap.size _ _ _ lL.out (Vi HV.out) (by have:=Np.zp (copies.map (·.zone.apex)); rw[List.length_map] at this; have:=s5.out; omega)).mono ?_;rintro e w4 ⟨rfl,l5,OM⟩;have H4':=jq (And.intro (cE.weak l5 (show X<=w2.heap.size by omega)) (ar.out.grown OM (by omega) (λq hq=>by have:=(World.ownsRow.lt lL.out q hq).1; omega)));clear l5 OM;go_wp2_with fail;go_ret2;exact⟨.inl ⟨HV.out,_,rfl,H4'.out.1⟩,H4'.out.2⟩
end
section
open Go.ChangeShapes Go.WideShapes Go.ChangeAt Go.RowKit Go.Deep
def rF{α:Type}(R:World->Nat->List Value->α->Prop)(P:α->Prop)(W:World)(B:Nat)(e:List Value)(x:α):Prop:=R W B e x/\P x
theorem SlR.both{α:Type}{R:World->Nat->List Value->α->Prop}{P:α->Prop}{sz:Nat}{W:World}{B:Nat}{v:Value}{xs:List α}(h:SlR (rF R P) sz W B v xs):SlR R sz W B v xs/\∀ x∈xs,P x:=by
 obtain⟨A,c,h1,h2,h3,h4⟩:=h;refine⟨⟨A,c,h1,h2,h3,λi x hx=>?_⟩,λx hx=>?_⟩
 ·obtain⟨b,o,e,k1,k2,k3,k4,k5,_⟩:=h4 i x hx;exact⟨b,o,e,k1,k2,k3,k4,k5⟩
 ·obtain⟨i,hi⟩:=List.mem_iff_getElem?.1 hx;obtain⟨b,o,e,_,_,_,_,_,k⟩:=h4 i x hi;exact k
def MT(g:Np.Sig):Prop:=0<=g.sum/\g.sum<18446744073709551616
def MV(z:Np.Zone):Prop:=∀ s∈z.sets,Np.x7 s
def MU(c:Np.Copy):Prop:=MV c.zone
theorem aKJ{x:Int}(h:(Lit.int .u64 x).wf=true):0<=x/\x<18446744073709551616:=by
 have:=bounds_u64 h
 omega
theorem VB:prog.cellsOf 24=1:=by kernel_rfl
theorem VE:prog.cellsOf 66=1:=by kernel_rfl
theorem VF:prog.cellsOf 54=1:=by kernel_rfl
theorem VG:prog.cellsOf 131=1:=by kernel_rfl
theorem Nc:prog.cellsOf 26=4:=by kernel_rfl
theorem VH:prog.cellsOf 56=2:=by kernel_rfl
theorem VC:prog.cellsOf 22=1:=by kernel_rfl
theorem Vz:prog.cellsOf 23=1:=by kernel_rfl
theorem VD:prog.cellsOf 27=1:=by kernel_rfl
def RSet(W:World)(B:Nat)(e:List Value)(x:Np.DSet):Prop:=∃ (s:ByteArray) (v:Value),s.data.toList=x.name/\s.size<=140737488355328/\SlR cr 3 W B v x.data/\e = [.string s,.int .i64 x.type,.int .i64 x.life,v]
theorem atX:iR prog 96 3 cr:=by
 intro H enc W base spare held fuel cs d ps h hw;obtain⟨hl,hf⟩:=ur underlying96 h hw;have hl':cs.length=3:=hl.trans (by kernel_rfl);clear hl
 match cs,hl' with
 | [c0,c1,c2],_=>
  obtain⟨n0,d0,p0,t0,w0⟩:=hf 0 _ rfl;have t0':DataW.trod enc prog W base spare held n0 9 (([c0,c1,c2].drop 0).take (prog.cellsOf 9))=some (d0,p0):=t0;rw[AR] at t0';have u0:DataW.trod enc prog W base spare held n0 9 [c0]=some (d0,p0):=t0';obtain⟨n1,d1,p1,t1,w1⟩:=hf 1 _ rfl;have t1':DataW.trod enc prog W base spare held n1 3 (([c0,c1,c2].drop 1).take (prog.cellsOf 3))=some (d1,p1):=t1;rw[iU] at t1';have u1:DataW.trod enc prog W base spare held n1 3 [c1]=some (d1,p1):=t1';obtain⟨n2,d2,p2,t2,w2⟩:=hf 2 _ rfl;have t2':DataW.trod enc prog W base spare held n2 3 (([c0,c1,c2].drop 2).take (prog.cellsOf 3))=some (d2,p2):=t2;rw[iU] at t2';have u2:DataW.trod enc prog W base spare held n2 3 [c2]=some (d2,p2):=t2';obtain⟨_,_,s0,_,gz,eJ⟩:=CE underlying9 H enc W base spare held n0 _ _ _ u0 w0;obtain rfl:c0 = .string s0:=by simpa using eJ
  obtain⟨_,x1,dW,wf1⟩:=kM underlying3 H enc W base spare held n1 _ _ _ u1 w1;obtain rfl:c1 = .int .i64 x1:=by simpa using dW
  obtain⟨_,x2,oL,wf2⟩:=kM underlying3 H enc W base spare held n2 _ _ _ u2 w2;obtain rfl:c2 = .int .i64 x2:=by simpa using oL
  exact⟨rfl,⟨s0.data.toList,x1,x2⟩,s0,rfl,gz,rfl⟩
theorem atK:iR prog 24 1 (RSl cr 3):=ze underlying24 (by kernel_rfl) (by decide) (of_decide_eq_true (by kernel_rfl)) atX
theorem QV:iR prog 26 4 RSet:=by
 intro H enc W base spare held fuel cs d ps h hw;obtain⟨hl,hf⟩:=ur underlying26 h hw;have hl':cs.length=4:=hl.trans (by kernel_rfl);clear hl
 match cs,hl' with
 | [c0,c1,c2,c3],_=>
  obtain⟨n0,d0,p0,t0,w0⟩:=hf 0 _ rfl;have t0':DataW.trod enc prog W base spare held n0 9 (([c0,c1,c2,c3].drop 0).take (prog.cellsOf 9))=some (d0,p0):=t0;rw[AR] at t0';have u0:DataW.trod enc prog W base spare held n0 9 [c0]=some (d0,p0):=t0';obtain⟨n1,d1,p1,t1,w1⟩:=hf 1 _ rfl;have t1':DataW.trod enc prog W base spare held n1 3 (([c0,c1,c2,c3].drop 1).take (prog.cellsOf 3))=some (d1,p1):=t1;rw[iU] at t1';have u1:DataW.trod enc prog W base spare held n1 3 [c1]=some (d1,p1):=t1';obtain⟨n2,d2,p2,t2,w2⟩:=hf 2 _ rfl;have t2':DataW.trod enc prog W base spare held n2 3 (([c0,c1,c2,c3].drop 2).take (prog.cellsOf 3))=some (d2,p2):=t2;rw[iU] at t2';have u2:DataW.trod enc prog W base spare held n2 3 [c2]=some (d2,p2):=t2';obtain⟨n3,d3,p3,t3,w3⟩:=hf 3 _ rfl;have t3':DataW.trod enc prog W base spare held n3 24 (([c0,c1,c2,c3].drop 3).take (prog.cellsOf 24))=some (d3,p3):=t3;rw[VB] at t3';have u3:DataW.trod enc prog W base spare held n3 24 [c3]=some (d3,p3):=t3';obtain⟨_,_,s0,_,gz,eJ⟩:=CE underlying9 H enc W base spare held n0 _ _ _ u0 w0;obtain rfl:c0 = .string s0:=by simpa using eJ
  obtain⟨_,x1,dW,wf1⟩:=kM underlying3 H enc W base spare held n1 _ _ _ u1 w1;obtain rfl:c1 = .int .i64 x1:=by simpa using dW
  obtain⟨_,x2,oL,wf2⟩:=kM underlying3 H enc W base spare held n2 _ _ _ u2 w2;obtain rfl:c2 = .int .i64 x2:=by simpa using oL
  obtain⟨_,x3,v3,uk,JR⟩:=atK H enc W base spare held n3 _ _ _ u3 w3;obtain rfl:c3=v3:=by simpa using uk
  exact⟨rfl,⟨s0.data.toList,x1,x2,x3⟩,s0,_,rfl,gz,JR,rfl⟩
theorem auK:iR prog 133 6 (rF fj MT):=by
 intro H enc W base spare held fuel cs d ps h hw;obtain⟨hl,hf⟩:=ur underlying133 h hw;have hl':cs.length=6:=hl.trans (by kernel_rfl);clear hl
 match cs,hl' with
 | [c0,c1,c2,c3,c4,c5],_=>
  obtain⟨n0,d0,p0,t0,w0⟩:=hf 0 _ rfl;have t0':DataW.trod enc prog W base spare held n0 9 (([c0,c1,c2,c3,c4,c5].drop 0).take (prog.cellsOf 9))=some (d0,p0):=t0;rw[AR] at t0';have u0:DataW.trod enc prog W base spare held n0 9 [c0]=some (d0,p0):=t0';obtain⟨n1,d1,p1,t1,w1⟩:=hf 1 _ rfl;have t1':DataW.trod enc prog W base spare held n1 3 (([c0,c1,c2,c3,c4,c5].drop 1).take (prog.cellsOf 3))=some (d1,p1):=t1;rw[iU] at t1';have u1:DataW.trod enc prog W base spare held n1 3 [c1]=some (d1,p1):=t1';obtain⟨n2,d2,p2,t2,w2⟩:=hf 2 _ rfl;have t2':DataW.trod enc prog W base spare held n2 3 (([c0,c1,c2,c3,c4,c5].drop 2).take (prog.cellsOf 3))=some (d2,p2):=t2;rw[iU] at t2';have u2:DataW.trod enc prog W base spare held n2 3 [c2]=some (d2,p2):=t2';obtain⟨n3,d3,p3,t3,w3⟩:=hf 3 _ rfl;have t3':DataW.trod enc prog W base spare held n3 3 (([c0,c1,c2,c3,c4,c5].drop 3).take (prog.cellsOf 3))=some (d3,p3):=t3;rw[iU] at t3';have u3:DataW.trod enc prog W base spare held n3 3 [c3]=some (d3,p3):=t3';obtain⟨n4,d4,p4,t4,w4⟩:=hf 4 _ rfl;have t4':DataW.trod enc prog W base spare held n4 3 (([c0,c1,c2,c3,c4,c5].drop 4).take (prog.cellsOf 3))=some (d4,p4):=t4;rw[iU] at t4';have u4:DataW.trod enc prog W base spare held n4 3 [c4]=some (d4,p4):=t4';obtain⟨n5,d5,p5,t5,w5⟩:=hf 5 _ rfl;have t5':DataW.trod enc prog W base spare held n5 131 (([c0,c1,c2,c3,c4,c5].drop 5).take (prog.cellsOf 131))=some (d5,p5):=t5;rw[VG] at t5';have u5:DataW.trod enc prog W base spare held n5 131 [c5]=some (d5,p5):=t5';obtain⟨_,_,s0,_,gz,eJ⟩:=CE underlying9 H enc W base spare held n0 _ _ _ u0 w0;obtain rfl:c0 = .string s0:=by simpa using eJ
  obtain⟨_,x1,dW,wf1⟩:=kM underlying3 H enc W base spare held n1 _ _ _ u1 w1;obtain rfl:c1 = .int .i64 x1:=by simpa using dW
  obtain⟨_,x2,oL,wf2⟩:=kM underlying3 H enc W base spare held n2 _ _ _ u2 w2;obtain rfl:c2 = .int .i64 x2:=by simpa using oL
  obtain⟨_,x3,uk,wf3⟩:=kM underlying3 H enc W base spare held n3 _ _ _ u3 w3;obtain rfl:c3 = .int .i64 x3:=by simpa using uk
  obtain⟨_,x4,Cq,wf4⟩:=kM underlying3 H enc W base spare held n4 _ _ _ u4 w4;obtain rfl:c4 = .int .i64 x4:=by simpa using Cq
  obtain⟨_,x5,Ka,wf5⟩:=kM underlying131 H enc W base spare held n5 _ _ _ u5 w5;obtain rfl:c5 = .int .u64 x5:=by simpa using Ka
  exact⟨rfl,⟨s0.data.toList,x1,x2,x3,x4,x5⟩,⟨s0,rfl,gz,rfl⟩,aKJ wf5⟩
theorem avQ:iR prog 66 1 (RSl (rF fj MT) 6):=ze underlying66 (by kernel_rfl) (by decide) (of_decide_eq_true (by kernel_rfl)) auK
theorem auX:iR prog 68 5 (rF bC Np.x7):=by
 intro H enc W base spare held fuel cs d ps h hw;obtain⟨hl,hf⟩:=ur underlying68 h hw;have hl':cs.length=5:=hl.trans (by kernel_rfl);clear hl
 match cs,hl' with
 | [c0,c1,c2,c3,c4],_=>
  obtain⟨n0,d0,p0,t0,w0⟩:=hf 0 _ rfl;have t0':DataW.trod enc prog W base spare held n0 26 (([c0,c1,c2,c3,c4].drop 0).take (prog.cellsOf 26))=some (d0,p0):=t0;rw[Nc] at t0';have u0:DataW.trod enc prog W base spare held n0 26 [c0,c1,c2,c3]=some (d0,p0):=t0';obtain⟨n1,d1,p1,t1,w1⟩:=hf 1 _ rfl;have t1':DataW.trod enc prog W base spare held n1 66 (([c0,c1,c2,c3,c4].drop 4).take (prog.cellsOf 66))=some (d1,p1):=t1;rw[VE] at t1';have u1:DataW.trod enc prog W base spare held n1 66 [c4]=some (d1,p1):=t1';obtain⟨_,x0,eJ⟩:=QV H enc W base spare held n0 _ _ _ u0 w0;obtain⟨_,x1,v1,dW,uf⟩:=avQ H enc W base spare held n1 _ _ _ u1 w1;obtain rfl:c4=v1:=by simpa using dW
  obtain⟨sa,va,ha,hb,hc,hd⟩:=eJ;exact⟨rfl,⟨x0,x1⟩,⟨sa,va,_,ha,hb,hc,uf.both.1,by rw[List.cons.injEq,List.cons.injEq,List.cons.injEq,List.cons.injEq] at hd; obtain⟨rfl,rfl,rfl,rfl,_⟩:=hd; rfl⟩,uf.both.2⟩
theorem auY:iR prog 54 1 (RSl (rF bC Np.x7) 5):=ze underlying54 (by kernel_rfl) (by decide) (of_decide_eq_true (by kernel_rfl)) auX
theorem avZ:iR prog 56 2 (rF U2 MV):=by
 intro H enc W base spare held fuel cs d ps h hw;obtain⟨hl,hf⟩:=ur underlying56 h hw;have hl':cs.length=2:=hl.trans (by kernel_rfl);clear hl
 match cs,hl' with
 | [c0,c1],_=>
  obtain⟨n0,d0,p0,t0,w0⟩:=hf 0 _ rfl;have t0':DataW.trod enc prog W base spare held n0 9 (([c0,c1].drop 0).take (prog.cellsOf 9))=some (d0,p0):=t0;rw[AR] at t0';have u0:DataW.trod enc prog W base spare held n0 9 [c0]=some (d0,p0):=t0';obtain⟨n1,d1,p1,t1,w1⟩:=hf 1 _ rfl;have t1':DataW.trod enc prog W base spare held n1 54 (([c0,c1].drop 1).take (prog.cellsOf 54))=some (d1,p1):=t1;rw[VF] at t1';have u1:DataW.trod enc prog W base spare held n1 54 [c1]=some (d1,p1):=t1';obtain⟨_,_,s0,_,gz,eJ⟩:=CE underlying9 H enc W base spare held n0 _ _ _ u0 w0;obtain rfl:c0 = .string s0:=by simpa using eJ
  obtain⟨_,x1,v1,dW,uf⟩:=auY H enc W base spare held n1 _ _ _ u1 w1;obtain rfl:c1=v1:=by simpa using dW
  exact⟨rfl,⟨s0.data.toList,x1⟩,⟨s0,_,rfl,gz,uf.both.1,rfl⟩,uf.both.2⟩
theorem atJ:iR prog 58 5 (rF dD MU):=by
 intro H enc W base spare held fuel cs d ps h hw;obtain⟨hl,hf⟩:=ur underlying58 h hw;have hl':cs.length=5:=hl.trans (by kernel_rfl);clear hl
 match cs,hl' with
 | [c0,c1,c2,c3,c4],_=>
  obtain⟨n0,d0,p0,t0,w0⟩:=hf 0 _ rfl;have t0':DataW.trod enc prog W base spare held n0 3 (([c0,c1,c2,c3,c4].drop 0).take (prog.cellsOf 3))=some (d0,p0):=t0;rw[iU] at t0';have u0:DataW.trod enc prog W base spare held n0 3 [c0]=some (d0,p0):=t0';obtain⟨n1,d1,p1,t1,w1⟩:=hf 1 _ rfl;have t1':DataW.trod enc prog W base spare held n1 3 (([c0,c1,c2,c3,c4].drop 1).take (prog.cellsOf 3))=some (d1,p1):=t1;rw[iU] at t1';have u1:DataW.trod enc prog W base spare held n1 3 [c1]=some (d1,p1):=t1';obtain⟨n2,d2,p2,t2,w2⟩:=hf 2 _ rfl;have t2':DataW.trod enc prog W base spare held n2 3 (([c0,c1,c2,c3,c4].drop 2).take (prog.cellsOf 3))=some (d2,p2):=t2;rw[iU] at t2';have u2:DataW.trod enc prog W base spare held n2 3 [c2]=some (d2,p2):=t2';obtain⟨n3,d3,p3,t3,w3⟩:=hf 3 _ rfl;have t3':DataW.trod enc prog W base spare held n3 56 (([c0,c1,c2,c3,c4].drop 3).take (prog.cellsOf 56))=some (d3,p3):=t3;rw[VH] at t3';have u3:DataW.trod enc prog W base spare held n3 56 [c3,c4]=some (d3,p3):=t3';obtain⟨_,x0,eJ,wf0⟩:=kM underlying3 H enc W base spare held n0 _ _ _ u0 w0;obtain rfl:c0 = .int .i64 x0:=by simpa using eJ
  obtain⟨_,x1,dW,wf1⟩:=kM underlying3 H enc W base spare held n1 _ _ _ u1 w1;obtain rfl:c1 = .int .i64 x1:=by simpa using dW
  obtain⟨_,x2,oL,wf2⟩:=kM underlying3 H enc W base spare held n2 _ _ _ u2 w2;obtain rfl:c2 = .int .i64 x2:=by simpa using oL
  obtain⟨_,x3,uk⟩:=avZ H enc W base spare held n3 _ _ _ u3 w3;obtain⟨⟨sa,va,ha,hb,hc,hd⟩,hp⟩:=uk;exact⟨rfl,⟨x0,x1,x2,x3⟩,⟨sa,va,ha,hb,hc,by rw[List.cons.injEq,List.cons.injEq] at hd; obtain⟨rfl,rfl,_⟩:=hd; rfl⟩,hp⟩
theorem atZ:iR prog 23 1 (RSl (rF dD MU) 5):=ze underlying23 (by kernel_rfl) (by decide) (of_decide_eq_true (by kernel_rfl)) atJ
theorem atY:iR prog 64 3 gb:=by
 intro H enc W base spare held fuel cs d ps h hw;obtain⟨hl,hf⟩:=ur underlying64 h hw;have hl':cs.length=3:=hl.trans (by kernel_rfl);clear hl
 match cs,hl' with
 | [c0,c1,c2],_=>
  obtain⟨n0,d0,p0,t0,w0⟩:=hf 0 _ rfl;have t0':DataW.trod enc prog W base spare held n0 9 (([c0,c1,c2].drop 0).take (prog.cellsOf 9))=some (d0,p0):=t0;rw[AR] at t0';have u0:DataW.trod enc prog W base spare held n0 9 [c0]=some (d0,p0):=t0';obtain⟨n1,d1,p1,t1,w1⟩:=hf 1 _ rfl;have t1':DataW.trod enc prog W base spare held n1 3 (([c0,c1,c2].drop 1).take (prog.cellsOf 3))=some (d1,p1):=t1;rw[iU] at t1';have u1:DataW.trod enc prog W base spare held n1 3 [c1]=some (d1,p1):=t1';obtain⟨n2,d2,p2,t2,w2⟩:=hf 2 _ rfl;have t2':DataW.trod enc prog W base spare held n2 3 (([c0,c1,c2].drop 2).take (prog.cellsOf 3))=some (d2,p2):=t2;rw[iU] at t2';have u2:DataW.trod enc prog W base spare held n2 3 [c2]=some (d2,p2):=t2';obtain⟨_,_,s0,_,gz,eJ⟩:=CE underlying9 H enc W base spare held n0 _ _ _ u0 w0;obtain rfl:c0 = .string s0:=by simpa using eJ
  obtain⟨_,x1,dW,wf1⟩:=kM underlying3 H enc W base spare held n1 _ _ _ u1 w1;obtain rfl:c1 = .int .i64 x1:=by simpa using dW
  obtain⟨_,x2,oL,wf2⟩:=kM underlying3 H enc W base spare held n2 _ _ _ u2 w2;obtain rfl:c2 = .int .i64 x2:=by simpa using oL
  exact⟨rfl,⟨s0.data.toList,x1,x2⟩,s0,rfl,gz,rfl⟩
theorem auQ:iR prog 22 1 (RSl gb 3):=ze underlying22 (by kernel_rfl) (by decide) (of_decide_eq_true (by kernel_rfl)) atY
theorem auZ:iR prog 3 1 gJ:=λH enc W base spare held fuel cs d ps h hw=>by
 obtain⟨h1,x,h2,_⟩:=kM underlying3 H enc W base spare held fuel cs d ps h hw;exact⟨h1,x,h2⟩
theorem auJ:iR prog 27 1 (RSl gJ 1):=ze underlying27 (by kernel_rfl) (by decide) (of_decide_eq_true (by kernel_rfl)) auZ
theorem KC:iR prog 29 9 (rF bA Np.lj):=by
 intro H enc W base spare held fuel cs d ps h hw;obtain⟨hl,hf⟩:=ur underlying29 h hw;have hl':cs.length=9:=hl.trans (by kernel_rfl);clear hl
 match cs,hl' with
 | [c0,c1,c2,c3,c4,c5,c6,c7,c8],_=>
  obtain⟨n0,d0,p0,t0,w0⟩:=hf 0 _ rfl;have t0':DataW.trod enc prog W base spare held n0 22 (([c0,c1,c2,c3,c4,c5,c6,c7,c8].drop 0).take (prog.cellsOf 22))=some (d0,p0):=t0;rw[VC] at t0';have u0:DataW.trod enc prog W base spare held n0 22 [c0]=some (d0,p0):=t0';obtain⟨n1,d1,p1,t1,w1⟩:=hf 1 _ rfl;have t1':DataW.trod enc prog W base spare held n1 23 (([c0,c1,c2,c3,c4,c5,c6,c7,c8].drop 1).take (prog.cellsOf 23))=some (d1,p1):=t1;rw[Vz] at t1';have u1:DataW.trod enc prog W base spare held n1 23 [c1]=some (d1,p1):=t1';obtain⟨n2,d2,p2,t2,w2⟩:=hf 2 _ rfl;have t2':DataW.trod enc prog W base spare held n2 26 (([c0,c1,c2,c3,c4,c5,c6,c7,c8].drop 2).take (prog.cellsOf 26))=some (d2,p2):=t2;rw[Nc] at t2';have u2:DataW.trod enc prog W base spare held n2 26 [c2,c3,c4,c5]=some (d2,p2):=t2';obtain⟨n3,d3,p3,t3,w3⟩:=hf 3 _ rfl;have t3':DataW.trod enc prog W base spare held n3 27 (([c0,c1,c2,c3,c4,c5,c6,c7,c8].drop 6).take (prog.cellsOf 27))=some (d3,p3):=t3;rw[VD] at t3';have u3:DataW.trod enc prog W base spare held n3 27 [c6]=some (d3,p3):=t3';obtain⟨n4,d4,p4,t4,w4⟩:=hf 4 _ rfl;have t4':DataW.trod enc prog W base spare held n4 3 (([c0,c1,c2,c3,c4,c5,c6,c7,c8].drop 7).take (prog.cellsOf 3))=some (d4,p4):=t4;rw[iU] at t4';have u4:DataW.trod enc prog W base spare held n4 3 [c7]=some (d4,p4):=t4';obtain⟨n5,d5,p5,t5,w5⟩:=hf 5 _ rfl;have t5':DataW.trod enc prog W base spare held n5 3 (([c0,c1,c2,c3,c4,c5,c6,c7,c8].drop 8).take (prog.cellsOf 3))=some (d5,p5):=t5;rw[iU] at t5';have u5:DataW.trod enc prog W base spare held n5 3 [c8]=some (d5,p5):=t5';obtain⟨_,x0,v0,eJ,ZD⟩:=auQ H enc W base spare held n0 _ _ _ u0 w0;obtain rfl:c0=v0:=by simpa using eJ
  obtain⟨_,x1,v1,dW,uf⟩:=atZ H enc W base spare held n1 _ _ _ u1 w1;obtain rfl:c1=v1:=by simpa using dW
  obtain⟨_,x2,oL⟩:=QV H enc W base spare held n2 _ _ _ u2 w2;obtain⟨_,x3,v3,uk,JR⟩:=auJ H enc W base spare held n3 _ _ _ u3 w3;obtain rfl:c6=v3:=by simpa using uk
  obtain⟨_,x4,Cq,wf4⟩:=kM underlying3 H enc W base spare held n4 _ _ _ u4 w4;obtain rfl:c7 = .int .i64 x4:=by simpa using Cq
  obtain⟨_,x5,Ka,wf5⟩:=kM underlying3 H enc W base spare held n5 _ _ _ u5 w5;obtain rfl:c8 = .int .i64 x5:=by simpa using Ka
  obtain⟨sa,va,ha,hb,hc,hd⟩:=oL;exact⟨rfl,⟨x0,x1,x2,x3,x4,x5⟩,⟨_,_,sa,va,_,by rw[List.cons.injEq,List.cons.injEq,List.cons.injEq,List.cons.injEq] at hd; obtain⟨rfl,rfl,rfl,rfl,_⟩:=hd; rfl,ha,hb,ZD,uf.both.1,hc,JR⟩,uf.both.2⟩
theorem Ij{α:Type}{P:Program}{t:TypeId}{sz:Nat}{R:World->Nat->List Value->α->Prop}{fs:Array Field}(hs:P.underlying t=some (.struct fs))(hR:iR P t sz R){H:Type}{enc:TypeId×Value->H}{W:World}{r:Reach}{base b0:Nat}{spare:Nat->Bool}{held:Bool}{v:Value}{d:DataW H}{p:List MemPlace}
 (hv:Value.okWide P W r b0 t v) (h:DataW.Trod enc P W base spare held t v d p) (hw:∀ n∈d.weights P t,n<=reachBytes):∃ (cs:List Value) (x:α),v = .agg cs.toArray/\R W W.heap.size cs x:=by
 obtain⟨cs,rfl,_⟩:=okWide_struct hs hv;obtain⟨fuel,hf⟩:=h;obtain⟨_,x,hx⟩:=hR H enc W base spare held fuel _ d p hf hw;exact⟨_,x,by simp[Value.cells],hx⟩
theorem qX{H:Type}{P:Program}{ts:List TypeId}{ds:List (DataW H)}(h:(DataW.weightsEach P ts ds).all (·<=reachBytes)=true){j:Nat}{t:TypeId}{d:DataW H}(ht:ts[j]?=some t)(hd:ds[j]?=some d):∀ n∈d.weights P t,n<=reachBytes:=
 λn hn=>by simpa using List.all_eq_true.1 h n (DataW.weights_mem_each ht hd n hn)
end
end Go.Proofs.YtbfbobfbgabjiaaGreatDoor
