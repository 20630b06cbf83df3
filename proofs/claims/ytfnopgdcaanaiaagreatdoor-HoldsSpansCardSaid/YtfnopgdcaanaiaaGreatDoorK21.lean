/- Parts of the proof. No condition. -/
import Derived.Test.YtfnopgdcaanaiaaGreatDoorK19
set_option linter.all false
set_option maxRecDepth 100000
set_option maxHeartbeats 8000000
namespace Go.Proofs.YtfnopgdcaanaiaaGreatDoor
open Go.Proofs.Tryz
section
open Go.RowKit Go.MapKept Go.Shelf Go.Sort
theorem XY(f u f' u':Int)(w:World) :
 Calls prog 122 #[.agg #[.int .i64 f,.int .i64 u],.agg #[.int .i64 f',.int .i64 u']] w λe w'=>e = .returned (.int .i64 (Np.cr f f'))/\∃ q os,w'=grow (w.drewN q) os:=by
 go_enter func122,ntmps122;go_wp2_with (go_at_call 123;refine (AD _ _ _).mono ?_;rintro e w' ⟨rfl,rfl⟩);go_ret;exact⟨rfl,0,_,by rw[alloc_eq_grow,alloc_eq_grow,grow_grow];rfl⟩
def Np.sW(h:Np.Hist):Prop:=(1<=h.stop/\h.stop<=10000000)/\(0<=h.drift/\h.drift<=1000)
theorem aGY{h:Np.Hist} : Np.VHist h↔((Np.sW h/\Np.VWorld ⟨h.hosts,[],h.anchor,h.hints⟩)/\∀ c∈h.copies,Np.CopyOk h c)/\h.copies.Pairwise λc d=>¬ Np.jH c d:=
 ⟨λv=>⟨⟨⟨⟨v.stop,v.drift⟩,v.hosts,v.root,λp hp=>(by cases hp),List.Pairwise.nil⟩,v.each⟩,v.apart⟩,λv=>⟨v.1.1.1.1,v.1.1.1.2,v.1.1.2.hosts,v.1.1.2.root,v.1.2,v.2⟩⟩
structure qz(W:World)(X:Nat)(hv cv:Value)(stop:Int):Prop where
 c0:W.cell? ⟨X,0,none⟩=some hv
 c1:W.cell? ⟨X,1,none⟩=some cv
 c8:W.cell? ⟨X,8,none⟩=some (.int .i64 stop)
 lt:X<W.heap.size
theorem qz.keep{W W':World}{X B:Nat}{hv cv:Value}{stop:Int}(h:qz W X hv cv stop)(hb:Below B W W')(hB:X<B):qz W' X hv cv stop:=⟨(hb.cell hB).trans h.c0,(hb.cell hB).trans h.c1,(hb.cell hB).trans h.c8,lQ h.lt hb.size⟩
theorem qz.turned{W W':World}{X r:Nat}{hv cv:Value}{stop:Int}(h:qz W X hv cv stop)(ht:Turned r W W')(hr:X≠r):qz W' X hv cv stop:=⟨(ht.cell hr).trans h.c0,(ht.cell hr).trans h.c1,(ht.cell hr).trans h.c8,by rw[ht.size];exact h.lt⟩
theorem Wy{xs xs6:List fd}{l:List Np.Copy}{c:Np.Copy}{j:Nat}{g:List Np.Span}{v v':Value}(h:Np.GrpI (xs.map λx=>(x.1,x.2.1)) l)(hc:(xs6=xs/\xs[j]?=some (Np.fM c,g,v))\/(Np.fM c∉xs.map (·.1)/\xs6=xs ++ [(Np.fM c,[],.slice none 0 0)]/\j=xs.length/\g = []/\v = .slice none 0 0)):Np.GrpI ((xs6.set j (Np.fM c,g ++ [Np.jF c],v')).map λx=>(x.1,x.2.1)) (l ++ [c]):=by
 rcases hc with ⟨rfl,hj⟩ | ⟨hn,rfl,rfl,rfl,rfl⟩
 ·rw[List.map_set];exact h.old (by rw[List.getElem?_map,hj];rfl)
 ·rw[List.set_append_right _ _ (bQ _),Nat.sub_self,List.set_cons_zero,List.map_append];exact h.new (by rw[List.map_map];exact hn)
theorem Of(hv:Value)(hs:List Np.Host)(cv:Value)(l:List Np.Copy)(s:ByteArray)(ap:s.size<=140737488355328)(ty life:Int)(dv:Value)(d:List Np.Datum)(cE:Value)(hints:List Int)(drift stop:Int)(hl:l.length<=500)(hz:∀ p∈l,p.zone.sets.length<=20000)(w:World)(hR:iP w w.heap.size)
 (hh:SlR gz 3 w w.heap.size hv hs) (hd:SlR jR 5 w w.heap.size cv l) (hdd:SlR bF 3 w w.heap.size dv d) (jt:SlR gB 1 w w.heap.size cE hints) :
 Calls prog 56 #[.agg #[hv,cv,.string s,.int .i64 ty,.int .i64 life,dv,cE,.int .i64 drift,.int .i64 stop]] w λe w'=>e = .returned (.bool (Np.yes (Np.VHist ⟨hs,l,⟨s.data.toList,ty,life,d⟩,hints,drift,stop⟩)))/\Below w.heap.size w w':=by
 obtain⟨r,hr⟩:∃ r,Np.yes (Np.VHist ⟨hs,l,⟨s.data.toList,ty,life,d⟩,hints,drift,stop⟩)=r:=⟨_,rfl⟩;obtain⟨ic,rA⟩:∃ h:Np.Hist,(⟨hs,l,⟨s.data.toList,ty,life,d⟩,hints,drift,stop⟩:Np.Hist)=h:=⟨_,rfl⟩;rw[hr];have HR:Hid (Np.yes (((Np.sW ic/\Np.VWorld ⟨hs,[],⟨s.data.toList,ty,life,d⟩,hints⟩)/\∀ c∈l,Np.CopyOk ic c)/\l.Pairwise λc d=>¬ Np.jH c d)=r):=jq (by rw[<-hr,<-rA];exact (Np.sB (aGY (h:=⟨hs,l,⟨s.data.toList,ty,life,d⟩,hints,drift,stop⟩))).symm);have jd:Hid (Np.sW ic↔(1<=stop/\stop<=10000000)/\(0<=drift/\drift<=1000)):=jq (by rw[<-rA];exact Iff.rfl);have iL:Hid (∀ c,Np.CopyOk ic c↔(0<=c.host/\c.host<hs.length)/\(0<=c.frm/\c.frm<c.til/\c.til<=stop)/\Np.VZone c.zone):=jq (λc=>by rw[<-rA];exact⟨λh=>⟨h.host,h.times,h.zone⟩,λh=>⟨h.1,h.2.1,h.2.2⟩⟩);have HH:=jq hh;have HD:=jq hd;have pz:=jq hdd;have pB:=jq jt;have gd:=jq hR;have HZ:=jq hz;obtain⟨A1,c1,rfl,_,_⟩:=al hh;obtain⟨A2,c2,rfl,_,_⟩:=al hd;obtain⟨A3,c3,rfl,_,_⟩:=al hdd;obtain⟨A4,c4,rfl,_,_⟩:=al jt;clear hr rA hd hR hh hdd jt hz;obtain⟨n1,bp⟩:∃ n,hs.length=n:=⟨_,rfl⟩;obtain⟨n2,bJ⟩:∃ n,l.length=n:=⟨_,rfl⟩;obtain⟨n3,di⟩:∃ n,d.length=n:=⟨_,rfl⟩;obtain⟨n4,dO⟩:∃ n,hints.length=n:=⟨_,rfl⟩;rw[bp] at HH iL |-;rw[bJ] at HD hl |-;rw[di] at pz |-;rw[dO] at pB |-;have HN:=jq (And.intro bp (And.intro bJ (And.intro di dO)));clear bp bJ di dO;obtain⟨W1,an⟩:∃ W1,w.alloc (.cells #[.slice A1 n1 c1,.slice A2 n2 c2,.string s,.int .i64 ty,.int .i64 life,.slice A3 n3 c3,.slice A4 n4 c4,.int .i64 drift,.int .i64 stop] 29)=W1:=⟨_,rfl⟩;have aL:Below w.heap.size w W1:=by rw[<-an];exact (vQ _ _).alloc (bQ _) _
 have kP:W1.heap.size=w.heap.size+1:=by rw[<-an];simp
 obtain⟨X,hX⟩:∃ X,w.heap.size=X:=⟨_,rfl⟩;have kA:=jq hX;have k0:W1.cell? ⟨X,0,none⟩=some (.slice A1 n1 c1):=by rw[<-an,<-hX];simp[go_sem]
 have k1:W1.cell? ⟨X,1,none⟩=some (.slice A2 n2 c2):=by rw[<-an,<-hX];simp[go_sem]
 have k2:W1.cell? ⟨X,2,none⟩=some (.string s):=by rw[<-an,<-hX];simp[go_sem]
 have k3:W1.cell? ⟨X,3,none⟩=some (.int .i64 ty):=by rw[<-an,<-hX];simp[go_sem]
 have k4:W1.cell? ⟨X,4,none⟩=some (.int .i64 life):=by rw[<-an,<-hX];simp[go_sem]
 have k5:W1.cell? ⟨X,5,none⟩=some (.slice A3 n3 c3):=by rw[<-an,<-hX];simp[go_sem]
 have k6:W1.cell? ⟨X,6,none⟩=some (.slice A4 n4 c4):=by rw[<-an,<-hX];simp[go_sem]
 have k7:W1.cell? ⟨X,7,none⟩=some (.int .i64 drift):=by rw[<-an,<-hX];simp[go_sem]
 have k8:W1.cell? ⟨X,8,none⟩=some (.int .i64 stop):=by rw[<-an,<-hX];simp[go_sem]
 rw[hX] at aL kP HH HD pz pB gd;rw[hX];have aU:=jq aL;clear aL;go_enter func56,ntmps56;by_cases g1:stop<1
 ·have dg1:decide (stop<1)=true:=uQ g1;have HX:Hid (r=false):=jq (by rw[<-HR.out];exact Np.aN λq=>by have:=jd.out.1 q.1.1.1;omega);clear g1;go_wp2_with fail;go_ret;exact⟨ag HX.out.symm,aU.out⟩
 have dg1:decide (stop<1)=false:=tQ g1;by_cases g2:10000000<stop
 ·have dg2:decide (10000000<stop)=true:=uQ g2;have HX:Hid (r=false):=jq (by rw[<-HR.out];exact Np.aN λq=>by have:=jd.out.1 q.1.1.1;omega);clear g2;go_wp2_with fail;go_ret;exact⟨ag HX.out.symm,aU.out⟩
 have dg2:decide (10000000<stop)=false:=tQ g2;by_cases g3:drift<0
 ·have dg3:decide (drift<0)=true:=uQ g3;have HX:Hid (r=false):=jq (by rw[<-HR.out];exact Np.aN λq=>by have:=jd.out.1 q.1.1.1;omega);clear g3;go_wp2_with fail;go_ret;exact⟨ag HX.out.symm,aU.out⟩
 have dg3:decide (drift<0)=false:=tQ g3;by_cases g4:1000<drift
 ·have dg4:decide (1000<drift)=true:=uQ g4;have HX:Hid (r=false):=jq (by rw[<-HR.out];exact Np.aN λq=>by have:=jd.out.1 q.1.1.1;omega);clear g4;go_wp2_with fail;go_ret;exact⟨ag HX.out.symm,aU.out⟩
 have dg4:decide (1000<drift)=false:=tQ g4;have d5:decide (4000<(n2:Int))=false:=tQ (by omega);have FI:Hid (Np.sW ic):=jq (jd.out.2 (by omega));clear g1 g2 g3 g4;go_wp2_with fail;refine (aIK _ hs _ [] s ap ty life _ d _ hints (by simp) (by simp) _ ((gd.out.keep aU.out).more (by omega)) ((HH.out.keep km aU.out).more sh (by omega)) ⟨none,0,rfl,by simp,by simp,λi x hx=>by simp at hx⟩ ((pz.out.keep cH aU.out).more du (by omega)) ((pB.out.keep lG aU.out).more sj (by omega))).mono ?_;rintro e w2 ⟨rfl,ac⟩;have aM:=ac.size;have CN:Hid (qz w2 X (.slice A1 n1 c1) (.slice A2 n2 c2) stop):=jq (qz.keep ⟨k0,k1,k8,by omega⟩ ac (by omega));have ak:=jq (aU.out.trans (ac.mono (by omega)));clear ac an k0 k1 k2 k3 k4 k5 k6 k7 k8;have k0:=CN.out.c0;have k1:=CN.out.c1;have Nt:=CN.out.lt;obtain⟨b1,aw⟩:∃ b1,Np.yes (Np.VWorld ⟨hs,[],⟨s.data.toList,ty,life,d⟩,hints⟩)=b1:=⟨_,rfl⟩;rw[aw];have sV:=jq aw;clear aw;have pb:∀ (w:World),(Instr.makeMap 184 none).run prog w = .ok (.map (some w.heap.size)) (w.alloc (.map #[] 0)):=λw=>by
  simp[Instr.makeMap,Result.andThen]
 cases b1 with
 | false=>
  have HX:Hid (r=false):=jq (by rw[<-HR.out];exact Np.aN λq=>by have:=Np.bO q.1.1.2;rw[sV.out] at this;cases this);go_wp2_with fail;go_ret;exact⟨ag HX.out.symm,ak.out⟩
 | true=>
  go_wp2_with fail;obtain⟨wm,Cf⟩:∃ wm,w2.alloc (.map #[] 0)=wm:=⟨_,rfl⟩;obtain⟨X1,oW⟩:∃ X1,w2.heap.size=X1:=⟨_,rfl⟩;have uB:Hid (MapX (X1+1) X1 [] wm):=jq (by rw[<-Cf,<-oW];exact MapX.made _ _);have hzm:wm.heap.size=X1+1:=by rw[<-Cf,<-oW];simp
  have th:Below X1 w2 wm:=by rw[<-Cf,<-oW];exact (vQ _ _).alloc (bQ _) _
  have Io:X<X1:=by omega
  have FO:Hid (qz wm X (.slice A1 n1 c1) (.slice A2 n2 c2) stop):=jq (CN.out.keep th Io);have FP:=jq (ak.out.trans (th.mono (by omega)));rw[Cf,oW];clear Cf oW th k0 k1;have ga:Hid (l.length=n2):=jq HN.out.2.1;go_loopw [47] (λi wr=>∃ (k:Nat) (xs:List fd),k<=n2/\i = .int .i64 k/\X1<wr.heap.size/\Hid (Below X1 wm wr)/\Hid (MapX (X1+1) X1 xs wr)/\Hid (Np.GrpI (xs.map λx=>(x.1,x.2.1)) (l.take k))/\Hid (∀ c∈l.take k,Np.CopyOk ic c)) (λi _=>n2 - (intOf i).toNat)
  case atStart=>exact⟨0,[],jQ _,rfl,by omega,jq (vQ _ _),uB,jq Np.GrpI.nil,jq (by simp)⟩
  case round=>
   obtain⟨k,xs,hk,rfl,cK,bH,HM,HG,bI⟩:=hrel;have HB:=jq (FP.out.trans (bH.out.mono (by omega)));have dw:=jq (FO.out.keep bH.out Io);have k0:=dw.out.c0;have k8:=dw.out.c8;by_cases aa:k<n2
   ·obtain⟨x,ab⟩:∃ x,l[k]?=some x:=⟨_,aQ (by rw[ga.out];exact aa)⟩;obtain⟨b,o,sn,vz,rfl,bU,aF,cx,fK,f0,f1,f2,f3,f4⟩:=ve (HD.out.keep kk HB.out) ab;obtain⟨Az,cz,rfl,_,_⟩:=al fK;obtain⟨nz,jy⟩:∃ nz,x.zone.sets.length=nz:=⟨_,rfl⟩;rw[jy] at f4;have HT:Hid (l.take (k+1)=l.take k ++ [x]):=jq (by
     obtain⟨hl,he⟩:=cQ.1 ab;rw[fQ hl,he])
    have HF:Hid (¬ Np.CopyOk ic x->r=false):=jq (λh=>by rw[<-HR.out];exact Np.aN λq=>h (q.1.2 x (gQ ab)));have zZ:Hid (x.zone.sets.length<=20000):=jq (HZ.out x (gQ ab));have aS:=jq aF;have lR:Hid (SlR bk 5 wr wr.heap.size (.slice Az nz cz) x.zone.sets):=jq (by rw[<-jy];exact fK.more bY (by omega));obtain⟨w3,eU⟩:∃ w3,wr.alloc (.cells #[.int .i64 x.host,.int .i64 x.frm,.int .i64 x.til,.string sn,.slice Az nz cz] 46)=w3:=⟨_,rfl⟩;have dP:w3.heap.size=wr.heap.size+1:=by rw[<-eU];simp
    have am:Below wr.heap.size wr w3:=by rw[<-eU];exact (vQ _ _).alloc (bQ _) _
    have p0:w3.cell? ⟨wr.heap.size,0,none⟩=some (.int .i64 x.host):=by rw[<-eU];simp[go_sem]
    have p1:w3.cell? ⟨wr.heap.size,1,none⟩=some (.int .i64 x.frm):=by rw[<-eU];simp[go_sem]
    have p2:w3.cell? ⟨wr.heap.size,2,none⟩=some (.int .i64 x.til):=by rw[<-eU];simp[go_sem]
    have p3:w3.cell? ⟨wr.heap.size,3,none⟩=some (.string sn):=by rw[<-eU];simp[go_sem]
    have p4:w3.cell? ⟨wr.heap.size,4,none⟩=some (.slice Az nz cz):=by rw[<-eU];simp[go_sem]
    have q0:w3.cell? ⟨X,0,none⟩=some (.slice A1 n1 c1):=(am.cell (by dsimp only;omega)).trans k0;have q8:w3.cell? ⟨X,8,none⟩=some (.int .i64 stop):=(am.cell (by dsimp only;omega)).trans k8;have az:=jq (HB.out.trans (am.mono (by omega)));have FR:=jq (bH.out.trans (am.mono (by omega)));have pI:=jq (HM.out.keep am);have jN:Hid (SlR bk 5 w3 w3.heap.size (.slice Az nz cz) x.zone.sets):=jq ((lR.out.keep ba am).more bY am.size);clear ab aF fK jy am lR;by_cases g1:x.host<0
    ·have dg1:decide (x.host<0)=true:=uQ g1;have HX:Hid (r=false):=jq (HF.out λh=>by have:=(iL.out x).1 h;omega);clear g1;go_wp2_with fail;go_ret;exact⟨ag HX.out.symm,az.out⟩
    have dg1:decide (x.host<0)=false:=tQ g1;by_cases g2:(n1:Int)<=x.host
    ·have dg2:decide ((n1:Int)<=x.host)=true:=uQ g2;have HX:Hid (r=false):=jq (HF.out λh=>by have:=(iL.out x).1 h;omega);clear g2;go_wp2_with fail;go_ret;exact⟨ag HX.out.symm,az.out⟩
    have dg2:decide ((n1:Int)<=x.host)=false:=tQ g2;by_cases g3:x.frm<0
    ·have dg3:decide (x.frm<0)=true:=uQ g3;have HX:Hid (r=false):=jq (HF.out λh=>by have:=(iL.out x).1 h;omega);clear g3;go_wp2_with fail;go_ret;exact⟨ag HX.out.symm,az.out⟩
    have dg3:decide (x.frm<0)=false:=tQ g3;by_cases g4:x.til<=x.frm
    ·have dg4:decide (x.til<=x.frm)=true:=uQ g4;have HX:Hid (r=false):=jq (HF.out λh=>by have:=(iL.out x).1 h;omega);clear g4;go_wp2_with fail;go_ret;exact⟨ag HX.out.symm,az.out⟩
    have dg4:decide (x.til<=x.frm)=false:=tQ g4;by_cases g5:stop<x.til
    ·have dg5:decide (stop<x.til)=true:=uQ g5;have HX:Hid (r=false):=jq (HF.out λh=>by have:=(iL.out x).1 h;omega);clear g5;go_wp2_with fail;go_ret;exact⟨ag HX.out.symm,az.out⟩
    have dg5:decide (stop<x.til)=false:=tQ g5;have zJ:Hid ((0<=x.host/\x.host<n1)/\(0<=x.frm/\x.frm<x.til/\x.til<=stop)):=jq (by omega);clear g1 g2 g3 g4 g5;go_wp2_with fail;refine (R1 sn cx _ x.zone.sets zZ.out w3 ((gd.out.keep az.out).more (by omega)) jN.out).mono ?_;rintro e w4 ⟨rfl,ar⟩;have eC:w3.heap.size<=w4.heap.size:=ar.size;have s0:w4.cell? ⟨wr.heap.size,0,none⟩=some (.int .i64 x.host):=(ar.cell (by dsimp only;omega)).trans p0;have s1:w4.cell? ⟨wr.heap.size,1,none⟩=some (.int .i64 x.frm):=(ar.cell (by dsimp only;omega)).trans p1;have s2:w4.cell? ⟨wr.heap.size,2,none⟩=some (.int .i64 x.til):=(ar.cell (by dsimp only;omega)).trans p2;have s3:w4.cell? ⟨wr.heap.size,3,none⟩=some (.string sn):=(ar.cell (by dsimp only;omega)).trans p3;have s4:w4.cell? ⟨wr.heap.size,4,none⟩=some (.slice Az nz cz):=(ar.cell (by dsimp only;omega)).trans p4;have br:=jq (az.out.trans (ar.mono (by omega)));have FT:=jq (FR.out.trans (ar.mono (by omega)));have Gu:=jq (pI.out.keep ar);clear ar p0 p1 p2 p3 p4 eU f0 f1 f2 f3 f4 q0 q8 k0 k8 pI;obtain⟨rz,ed⟩:∃ rz,Np.yes (Np.VZone ⟨sn.data.toList,x.zone.sets⟩)=rz:=⟨_,rfl⟩;rw[ed];have fR:=jq ed;clear ed
    cases rz with
    | false=>
     have HX:Hid (r=false):=jq (HF.out λh=>by
      have h1:=((iL.out x).1 h).2.2;have h2:x.zone=⟨sn.data.toList,x.zone.sets⟩:=by rw[aS.out]
      rw[h2] at h1;have h3:=Np.bO h1;rw[fR.out] at h3
      cases h3)
     go_wp2_with fail;go_ret;exact⟨ag HX.out.symm,br.out⟩
    | true=>
     have ea:Hid (Np.CopyOk ic x):=jq ((iL.out x).2 ⟨zJ.out.1,zJ.out.2,by
      have h2:x.zone=⟨sn.data.toList,x.zone.sets⟩:=by rw[aS.out]
      rw[h2];exact Np.fm.1 fR.out⟩)
     have GG:Hid (∀ c∈l.take (k+1),Np.CopyOk ic c):=jq (λc hc=>by
      rw[HT.out] at hc;rcases List.mem_append.1 hc with hc | hc
      ·exact bI.out c hc
      ·rw[List.mem_singleton] at hc;subst hc;exact ea.out)
     have my:Hid (Np.fM x=(x.host,sn.data.toList)):=jq (by unfold Np.fM;rw[aS.out]);obtain⟨w5,aP⟩:∃ w5,w4.alloc (.cells #[.int .i64 x.host,.string sn] 186)=w5:=⟨_,rfl⟩;obtain⟨w6,bN⟩:∃ w6,w5.alloc (.cells #[.int .i64 x.frm,.int .i64 x.til] 110)=w6:=⟨_,rfl⟩;have jB:w5.heap.size=w4.heap.size+1:=by rw[<-aP];simp
     have gI:w6.heap.size=w5.heap.size+1:=by rw[<-bN];simp
     have aC:Below w4.heap.size w4 w5:=by rw[<-aP];exact (vQ _ _).alloc (bQ _) _
     have aO:Below w4.heap.size w4 w6:=by rw[<-bN];exact aC.alloc (by omega) _
     have t0:w5.cell? ⟨w4.heap.size,0,none⟩=some (.int .i64 x.host):=by rw[<-aP];simp[go_sem]
     have t1:w5.cell? ⟨w4.heap.size,1,none⟩=some (.string sn):=by rw[<-aP];simp[go_sem]
     have u1:w5.cell? ⟨wr.heap.size,1,none⟩=some (.int .i64 x.frm):=(aC.cell (by dsimp only;omega)).trans s1;have u2:w5.cell? ⟨wr.heap.size,2,none⟩=some (.int .i64 x.til):=(aC.cell (by dsimp only;omega)).trans s2;have y0:w6.cell? ⟨w5.heap.size,0,none⟩=some (.int .i64 x.frm):=by rw[<-bN];simp[go_sem]
     have y1:w6.cell? ⟨w5.heap.size,1,none⟩=some (.int .i64 x.til):=by rw[<-bN];simp[go_sem]
     have Gv:=jq (Gu.out.keep aO);have dh:=jq (br.out.trans (aO.mono (by omega)));have Sy:=jq (FT.out.trans (aO.mono (by omega)));have jg:Hid (∀ (j:Nat) (g:List Np.Span) (v:Value),xs[j]?=some ((x.host,sn.data.toList),g,v)->g.length<=500):=jq (λj g v hj=>by
      have h1:=HG.out.each ((x.host,sn.data.toList),g) (List.mem_map.2 ⟨_,gQ hj,rfl⟩);simp only at h1;rw[h1];unfold Np.ft;rw[List.length_map];refine yQ (List.length_filter_le _ _) ?_;rw[List.length_take,ga.out];omega)
     clear aC aO;go_wp2_with (first
      | (refine aKJ _ rfl _ _ rfl (X1+1) X1 xs rfl Gv.out (Nat.lt_succ_self _) (x.host,sn.data.toList) rfl ?_;intro w7 j7 g7 v7 xs7 IB Og Oy B8;have SB:=jq IB;have Gk:=jq Og;have Gw:=jq Oy;have xO:=jq B8;have y0':w7.cell? ⟨w5.heap.size,0,none⟩=some (.int .i64 x.frm):=(B8.cell (by dsimp only;omega)).trans y0;have y1':w7.cell? ⟨w5.heap.size,1,none⟩=some (.int .i64 x.til):=(B8.cell (by dsimp only;omega)).trans y1;have po:w7.heap.size=w6.heap.size:=B8.size;have C0:Hid (g7.length<=100000):=jq (by rcases IB with ⟨_,hj⟩ | ⟨_,_,_,rfl,_⟩;exact yQ (jg.out _ _ _ hj) (by omega);simp);clear IB Og Oy B8)
      | (at_builtin;refine aJY _ rfl _ _ rfl (X1+1) v7 g7 rfl (Gw.out.row _ (gQ Gk.out)) w5.heap.size x.frm x.til (by simp[go_sem]) y0' y1' C0.out (by omega) ?_;intro v8 w8 fH cX Ny;have H8:=jq (And.intro fH (And.intro cX Ny));have ww:w7.heap.size<=w8.heap.size:=cX.size;clear fH cX Ny)
      | (refine aKZ _ w7 rfl _ _ _ rfl (X1+1) X1 xs7 Gw.out (Nat.lt_succ_self _) j7 (x.host,sn.data.toList) g7 (g7 ++ [⟨x.frm,x.til⟩]) v7 v8 Gk.out H8.out.2.1 H8.out.1 H8.out.2.2 rfl rfl rfl ?_;intro w9 Oz OZ;have H9:=jq (And.intro Oz OZ);clear Oz OZ))
     go_roundw
     case rel=>
      have e9:Below X1 wm w9:=((Sy.out.trans (xO.out.below (bQ _))).grown H8.out.2.1 (by omega) (λq hq=>by have:=(World.ownsRow.lt (Gw.out.row _ (gQ Gk.out)) q hq).1;omega)).trans (H9.out.2.below (bQ _));refine⟨k+1,_,by omega,by go_num,by rw[H9.out.2.size];omega,jq e9,jq H9.out.1,jq ?_,GG⟩;rw[HT.out];have hc:=SB.out;rw[<-my.out] at hc
      have:=Wy (v':=v8) HG.out hc
      rw[my.out] at this;exact this
     case measure=>simp[intOf] <;> omega
   ·have eK:Hid (l.take k=l):=jq (kQ (by rw[ga.out];omega));have zH:Hid (Np.GrpI (xs.map λx=>(x.1,x.2.1)) l):=jq (by have:=HG.out;rwa [eK.out] at this);have zO:Hid (∀ c∈l,Np.CopyOk ic c):=jq (by have:=bI.out;rwa [eK.out] at this);have k1:=dw.out.c1;clear HG bI eK k0 k8;go_wp2_with (at_range;refine aKX _ rfl _ rfl (X1+1) X1 xs rfl HM.out ?_;intro w10 OP NI Pg;have LB:=jq OP;have sE:=jq (bH.out.trans (NI.mono (by omega)));clear OP NI);go_frame;obtain⟨I,hI⟩:∃ I,wr.heap.size=I:=⟨_,rfl⟩;rw[hI] at LB Pg;rw[hI];have aQQ:X1<I:=by omega
    have Lc:Hid (∀ x∈xs,x.2.1.length<=500/\∀ t∈x.2.1,t.frm<t.til):=jq (λx hx=>by
     have h1:=zH.out.each (x.1,x.2.1) (List.mem_map.2 ⟨x,hx,rfl⟩);simp only at h1;rw[h1];refine⟨?_,λt ht=>?_⟩
     ·unfold Np.ft;rw[List.length_map];refine yQ (List.length_filter_le _ _) ?_;rw[ga.out];omega
     ·obtain⟨c,hc,rfl⟩:=List.mem_map.1 ht;exact (((iL.out c).1 (zO.out c (List.mem_filter.1 hc).1)).2.1).2.1)
    have ug:Hid ((l.Pairwise λc d=>¬ Np.jH c d)↔∀ x∈xs,x.2.1.Pairwise λa b=>¬ Np.nG a b):=jq (zH.out.ok.trans ⟨λh x hx=>h (x.1,x.2.1) (List.mem_map.2 ⟨x,hx,rfl⟩),λh y hy=>by
     obtain⟨x,hx,rfl⟩:=List.mem_map.1 hy;exact h x hx⟩)
    have aMX:=FO;clear dw HM bH HB hI cK k1;go_loopw [] (λwq=>∃ (seen:Array Nat) (xs':List fd),I<wq.heap.size/\Hid (Below X1 wm wq)/\Hid (RangeX (X1+1) X1 I xs' seen wq)/\Hid (xs'.length=xs.length/\∀ (j:Nat) (x':fd),xs'[j]?=some x'->∃ x:fd,xs[j]?=some x/\x'.2.1.Perm x.2.1)/\Hid (∀ (j:Nat) (x:fd),seen.contains j=true->xs[j]?=some x->x.2.1.Pairwise λa b=>¬ Np.nG a b)) (λwq=>wq.rangeLeft X1 I)
    case atStart=>exact⟨#[],xs,by omega,sE,LB,jq ⟨rfl,λj x hx=>⟨x,hx,List.Perm.refl _⟩⟩,jq (by simp)⟩
    case round=>
     obtain⟨seen,xs',If,FQ,Dj,Dk,Ly⟩:=hrel;have Sv:=jq (FO.out.keep FQ.out Io);have k1:=Sv.out.c1;go_wp2_with (at_next;refine aKK _ rfl _ rfl (X1+1) X1 I xs' seen rfl Dj.out (λlu=>?_) (λj p g v w11 hj Ja EA IV hen=>?_))
     ·have nC:Hid (l.Pairwise λc d=>¬ Np.jH c d):=jq (ug.out.2 λx hx=>by
       obtain⟨j,hj,rfl⟩:=nQ.1 hx;exact Ly.out j _ (lu j (by rw[Dk.out.1];exact hj)) (aQ hj))
      have jJ:=jq (FP.out.trans (FQ.out.mono (by omega)));refine (Ru _ l (by rw[ga.out];omega) _ ((HD.out.keep kk jJ.out).more r9 (by omega))).mono ?_;rintro e w13 ⟨v13,rfl,BR,Be⟩;obtain⟨A13,c13,rfl⟩:=ck.form BR;have uh:=jq (jJ.out.trans (Be.mono (by omega)));have IS:(Np.cM (l.map (·.zone.apex))).length<=500:=by
       have:=Np.ub (l.map (·.zone.apex))
       rw[List.length_map,ga.out] at this;omega
      obtain⟨m13,BL⟩:∃ m,(Np.cM (l.map (·.zone.apex))).length=m:=⟨_,rfl⟩;rw[BL] at IS |-;have d13:decide ((m13:Int)<=500)=true:=uQ (by omega);clear BR Be BL;go_wp2_with fail;go_ret;exact⟨ag (by rw[<-HR.out];exact (Np.bO ⟨⟨⟨FI.out,Np.fm.1 sV.out⟩,zO.out⟩,nC.out⟩).symm),uh.out⟩
     ·obtain⟨xj,Jw,I6⟩:=Dk.out.2 j _ hj;have hlg:g.length=xj.2.1.length:=I6.length_eq;have Yc:=(Lc.out xj (gQ Jw)).1;have Lt:=jq I6;have Dm:=jq Jw;have HJ:=jq hj;have GT:=jq Ja;have aOQ:=jq EA;have aNK:=jq IV;have aPZ:I<w11.heap.size:=by rw[EA.size];exact If
      have FF:Hid (Below X1 wm w11):=jq (FQ.out.trans (EA.below (by omega)));refine (Rh _ XY (enters_of func122 (by kernel_rfl) rfl) (X1+1) v g w11 (GT.out.mapX.row _ (gQ (by exact HJ.out))) (by omega)).mono ?_;rintro e w12 ⟨rfl,ys,hp,tM,Eo,ym⟩;have TR:Hid (RangeX (X1+1) X1 I (xs'.set j (p,ys,v)) (seen.push j) w12):=jq (GT.out.changed (Nat.lt_succ_self _) HJ.out ym Eo);have xM:Hid (Np.Hf ys↔xj.2.1.Pairwise λa b=>¬ Np.nG a b):=jq (Np.atX (hp.trans Lt.out) tM (Lc.out xj (gQ Dm.out)).2);have Lw:Hid (ys.Perm xj.2.1):=jq (hp.trans Lt.out);have rS:∀ q,v.ownBlock=some q->X1+1<=q:=λq hq=>(World.ownsRow.lt (GT.out.mapX.row _ (gQ (by exact HJ.out))) q hq).1;have oC:Hid (Below X1 wm w12):=jq (FF.out.grown ym (by omega) (λq hq=>by have:=rS q hq;omega));have YH:w12.rangeLeft X1 I<wr.rangeLeft X1 I:=by
       have e:w12.rangeLeft X1 I=w11.rangeLeft X1 I:=QB (ym.block X1 (by omega) (λe=>by have:=rS _ e.symm;omega)) (ym.block I (by omega) (λe=>by have:=Ja.row _ (gQ hj);exact this e.symm));rw[e];exact IV
      have Zo:I<w12.heap.size:=by have:=ym.size;omega
      have LG:Hid (SlR cV 2 w12 w12.heap.size v ys):=jq (aK.slr Eo (by have:=hp.length_eq;omega));have SZ:Hid (¬ Np.Hf ys->r=false):=jq (λh=>by
       rw[<-HR.out];refine Np.aN λq=>h (xM.out.2 ?_);exact (ug.out.1 q.2) xj (gQ Dm.out))
      have Zk:ys.length<=500:=by rw[Lw.out.length_eq];exact Yc
      obtain⟨Av,cv,rfl⟩:=aK.form Eo;obtain⟨wo,rfl⟩:∃ wo,wo=wr:=⟨_,rfl⟩;clear hp tM Eo ym Ja EA IV hen hj Jw I6 rS k1;obtain⟨ny,rH⟩:∃ ny,ys.length=ny:=⟨_,rfl⟩;rw[rH] at Zk LG;rw[rH];have C5:=jq rH;clear rH;go_wp2_with fail;go_loopw [9] (λi wi=>∃ q:Nat,1<=q/\(q<=ny\/q=1)/\i = .int .i64 q/\Hid (Below w12.heap.size w12 wi)/\Hid (∀ t (h:t+1<ys.length),t+1<q->ys[t].til<=ys[t+1].frm)) (λi _=>ny - (intOf i).toNat)
      case atStart=>exact⟨1,bQ _,.inr rfl,rfl,jq (vQ _ _),jq (λt h h2=>by omega)⟩
      case round=>
       obtain⟨q,I8,kf,rfl,cA,HQ⟩:=hrel;have rW:=cA.out.size;by_cases Ou:q<ny
       ·obtain⟨m,hm⟩:∃ m,q=m+1:=⟨q - 1,by omega⟩;have rH:=C5.out;have yv:m<ys.length:=by omega
        have OO:q<ys.length:=by omega
        obtain⟨a,ha⟩:∃ a,ys[m]?=some a:=⟨_,aQ yv⟩;obtain⟨b,hb⟩:∃ b,ys[q]?=some b:=⟨_,aQ OO⟩;have CT:=LG.out.keep dT cA.out;obtain⟨bb,oo,rfl⟩:=t8 (k:=m) CT yv;obtain⟨bC,Ir⟩:=qr CT ha;obtain⟨_,Is⟩:=qr CT hb;have a0:=Ir.c0;have a1:=Ir.c1;have b0:=Is.c0;have b1:=Is.c1;have bd:IntKind.i64.wrap ((q:Int) - 1)=(m:Int):=by rw[show (q:Int) - 1=m by omega];simp[IntKind.wrap,IntKind.bits,IntKind.signed];omega
        have i1:(0:Int)<=(q:Int):=by omega
        have i2:(q:Int)<(ny:Int):=by omega
        have i3:(0:Int)<=(m:Int):=by omega
        have i4:(m:Int)<(ny:Int):=by omega
        have i5:m<ny:=by omega
        have lI:Hid (b.frm<a.til->r=false):=jq (λaa=>SZ.out λmV=>by
         have h1:=mV m (by omega);obtain⟨e1,e2⟩:=cQ.1 ha;obtain⟨e3,e4⟩:=cQ.1 hb;subst hm;rw[e2,e4] at h1;omega)
        have KZ:Hid (¬ b.frm<a.til->∀ t (h:t+1<ys.length),t+1<q+1->ys[t].til<=ys[t+1].frm):=jq (λlZ t h h2=>by
         by_cases e:t=m
         ·subst e;obtain⟨e1,e2⟩:=cQ.1 ha;obtain⟨e3,e4⟩:=cQ.1 hb;subst hm;rw[e2,e4];omega
         ·exact HQ.out t h (by omega))
        obtain⟨af,au⟩:=a;obtain⟨bf,bu⟩:=b;dsimp only at a0 a1 b0 b1 lI KZ;clear ha hb CT Ir Is hm rH yv OO bC;by_cases ro:bf<au
        ·have dd:decide (bf<au)=true:=uQ ro;have HX:=jq (lI.out ro);have jJ:=jq (FP.out.trans ((oC.out.trans (cA.out.mono (by omega))).mono (by omega)));clear ro;go_wp2_with fail;go_quiet (fail);go_wp2_with fail;go_ret;exact⟨ag HX.out.symm,below_drewN jJ.out _⟩
        ·have dd:decide (bf<au)=false:=tQ ro;have HX:=jq (KZ.out ro);clear ro;go_wp2_with fail;go_quiet (fail);go_wp2_with fail;go_roundw
         case rel=>exact⟨q+1,by omega,by omega,by go_num,jq (below_drewN cA.out _),HX⟩
         case measure=>simp[intOf] <;> omega
       ·have nC:Hid (xj.2.1.Pairwise λa b=>¬ Np.nG a b):=jq (xM.out.1 λt h=>HQ.out t h (by have:=C5.out;omega));go_wp2_with fail;go_roundw
        case rel=>
         refine⟨seen.push j,_,by omega,jq (oC.out.trans (cA.out.mono (by omega))),jq (TR.out.keep cA.out),jq ⟨by rw[List.length_set];exact Dk.out.1,λj' x' hx'=>?_⟩,jq λj' x hs hx=>?_⟩
         ·rw[List.getElem?_set] at hx';split at hx'
          ·rename_i e;subst e;rw[Qb (cQ.1 HJ.out).1] at hx'
           cases hx'
           exact⟨xj,Dm.out,Lw.out⟩
          ·exact Dk.out.2 j' x' hx'
         ·rw[Array.contains_push,Bool.or_eq_true] at hs;rcases hs with hs | hs
          ·exact Ly.out j' x hs hx
          ·have e:j'=j:=by simpa using hs
           subst e
           have:=Dm.out
           rw[this] at hx
           cases hx
           exact nC.out
        case measure=>
         have e:=QB (w:=w12) (w':=wr) (r:=X1) (I:=I) (cA.out.block _ (by omega)) (cA.out.block _ (by omega));rw[e];exact YH
end
section
open Go.RowKit Go.Sort Go.Shelf
theorem Wv{W w':World}(h:D.Below W.heap.size W w'):∃ q os,w'=grow (W.drewN q) os:=by
 refine⟨w'.drawn - W.drawn,w'.heap.extract W.heap.size w'.heap.size,?_⟩;have hh:w'.heap=W.heap++w'.heap.extract W.heap.size w'.heap.size:=by
  apply Array.ext_getElem?;intro j;rcases Nat.lt_or_ge j W.heap.size with h1 | h1
  ·rw[Array.getElem?_append_left h1];exact h.block j h1
  ·rw[Array.getElem?_append_right h1,Array.getElem?_extract];split
   ·congr 1;omega
   ·rw[Array.getElem?_eq_none (by omega)]
 have hd:w'.drawn=W.drawn+(w'.drawn - W.drawn):=by have:=h.drawn;omega
 have h1:=h.os;have h2:=h.tape;have h3:=h.output
 cases w'
 cases W
 simp only[grow,World.drewN,World.mk.injEq] at *;exact⟨hh,h2,hd,h1,h3⟩
abbrev VN:={ x:List UInt8 // Np.aG x=true }
instance:Inhabited VN:=⟨⟨[46],by decide⟩⟩
def pS(x:VN):Value:=aD x.1
def kC(x y:VN):Int:=Np.aI x.1 y.1
theorem aCQ:SWO (ltOf kC) where
 irrefl x:=by unfold ltOf kC;rw[Np.eW.self];rfl
 trans x y z h1 h2:=by
  unfold ltOf kC at *;simp only[Qa] at *;exact Np.eW.trans _ _ _ h1 h2
 ntrans x y z h1 h2:=by
  unfold ltOf kC at *;simp only[decide_eq_false_iff_not] at *;intro h3;rcases Int.lt_trichotomy (Np.aI x.1 y.1) 0 with h4 | h4 | h4
  ·exact h1 h4
  ·have:=Np.eW.zero _ _ h4;rw[this] at h3;exact h2 h3
  ·have:=Np.eW.trans _ _ _ (Np.eW.anti' _ _ h4) h3
   exact h2 this
theorem aCK(x y:VN)(h1:ltOf kC x y=false)(h2:ltOf kC y x=false):x=y:=by
 unfold ltOf kC at *;simp only[decide_eq_false_iff_not] at *;apply Subtype.ext;rcases Int.lt_trichotomy (Np.aI x.1 y.1) 0 with h4 | h4 | h4
 ·exact absurd h4 h1
 ·exact Np.eW.zero _ _ h4
 ·exact absurd (Np.eW.anti' _ _ h4) h2
theorem Rl{x:List UInt8}(h:Np.aG x=true):(⟨x.toArray⟩:ByteArray).size<=140737488355328:=by
 have:=sw h
 have e:(⟨x.toArray⟩:ByteArray).size=x.length:=by rw[<-aZ]
 omega
theorem aMJ(x y:VN)(w:World) :
 Calls prog 136 #[pS x,pS y] w λe w'=>e = .returned (.int .i64 (kC x y))/\D.Below w.heap.size w w':=by
 have hc:=D.compare_any ⟨x.1.toArray⟩ ⟨y.1.toArray⟩ (Rl x.2) (Rl y.2) w;have e1:(⟨x.1.toArray⟩:ByteArray).data.toList=x.1:=rfl;have e2:(⟨y.1.toArray⟩:ByteArray).data.toList=y.1:=rfl;have e3:D.cmpVal x.1 y.1 = .tuple #[.int .i64 (kC x y),.int .i64 0]:=by unfold D.cmpVal;rw[x.2,y.2];rfl
 rw[e1,e2,e3] at hc;have HC:=jq hc;clear hc e1 e2 e3;unfold pS aD;generalize kC x y=z at HC |-;go_enter func136,ntmps136;go_wp2_with (go_at_call 137;refine HC.out.mono ?_;rintro e w2 ⟨rfl,ac⟩;have ak:=jq ac;clear ac);go_ret;exact⟨rfl,ak.out⟩
theorem XF(enc:VN->Value){w:World}{g n:Nat}{os:Array Obj}{cur:Array Value}{e:TypeId}{fr:Nat×Nat}(d:Array VN)(hb:w.heap[g]?=some (.cells cur e fr)) :
 (sortWorld enc w g 0 n d os).heap[g]?=some (.cells (putCells enc 0 d cur) e fr):=by
 have hl:g<w.heap.size:=(eQ.1 hb).1;unfold sortWorld;rw[heap_grow_old _ _ (by simpa [putRow,mapBlock,Sort.ahead] using hl)];simp[putRow,mapBlock,Sort.ahead,Array.getElem?_modify,hb,onCells]
theorem Ww(enc:VN->Value){w:World}{g n:Nat}{os:Array Obj}(d:Array VN):w.grownBy (sortWorld enc w g 0 n d os) (some g):=by
 unfold sortWorld;refine⟨rfl,rfl,rfl,by simp,λq hq hne=>?_⟩;rw[heap_grow_old _ _ (by simpa using hq)]
 have:g≠q:=λe=>hne (by rw[e])
 simp[putRow,mapBlock,Sort.ahead,Array.getElem?_modify,this]
theorem azX(base:Nat)(v:Value)(xs:List (List UInt8))(w:World)(hown:ck base w v xs)(hv:∀ x∈xs,Np.aG x=true)(hl:xs.length<=100000) :
 Calls prog 135 #[v,.func (.func 136) #[] #[]] w λe w'=>e = .returned (.tuple #[])/\ck base w' v (Np.ua xs)/\w.grownBy w' v.ownBlock:=by
 obtain⟨ys,Zm⟩:∃ ys:List VN,ys.map (·.1)=xs:=⟨xs.pmap (λx h=>⟨x,h⟩) hv,by rw[List.map_pmap];simp⟩;subst Zm;have hs:Np.ua (ys.map (·.1))=(ys.mergeSort λx y=>!(ltOf kC) y x).map (·.1):=by
  unfold Np.ua;exact (List.map_mergeSort (r:=λx y:VN=>!(ltOf kC) y x) (s:=λa b=>!decide (Np.aI b a<0)) (f:=λx:VN=>x.1) (l:=ys) (λa _ b _=>rfl)).symm
 have pg:w.ownsRow base 9 1 v (ys.map (·.1)).length ((ys.map (·.1)).map aD):=hown;rw[List.length_map] at pg hl;rcases pg.2 with ⟨rfl,h0⟩ | ⟨g,cap,cur,rfl,dV,hb,h1,h2,h3,h4⟩
 ·have:ys = []:=rQ h0
  subst this;refine (Tryz.slices_SortFunc_none (α:=VN) none 0 _ w).mono ?_;intro e w' hh;obtain⟨rfl,rfl⟩:=hh;exact⟨rfl,by rw[hs];simpa using hown,⟨rfl,rfl,rfl,bQ _,λ_ _ _=>rfl⟩⟩
 have eg:∀ args w,(callFunc 136 args).run prog w = .ok (.enter 136 args) w:=enters_of func136 (by kernel_rfl) rfl;have hH:Holds pS w g 0 ys.toArray:=λj hj=>by
  have hj':j<ys.length:=by simpa using hj
  refine⟨?_,by simp[World.frozen?,hb]⟩
  have:=pg.cellAt j (by omega)
  rw[Nat.zero_add,this,List.getElem?_map,List.getElem?_map,aQ hj',getElem!_pos ys.toArray j hj];simp[pS]
 have Bm:CmpLays1 prog 136 #[] pS kC g 0 ys.toArray.size w:=λm os dk _ x y=>(aMJ x y _).mono λe w' ⟨he,hw⟩=>⟨he,Wv hw⟩;have Ec:=Tryz.slices_SortFunc_total pS (λ_=>rfl) kC aCQ 136 #[] g 0 cap ys.toArray w eg Bm hH (eQ.1 hb).1 (by simp;omega) aCK;have hlen:(ys.mergeSort λx y=>!(ltOf kC) y x).length=ys.length:=List.length_mergeSort _;rw[List.size_toArray] at Ec;refine Ec.mono λe w' ⟨he,n,os,hw⟩=>⟨he,?_,?_⟩
 ·subst hw;rw[hs];unfold ck;rw[List.length_map,hlen];refine⟨by simp,.inr ⟨g,cap,_,rfl,dV,XF pS _ hb,h1,h2,by simp[putCells,h3],?_⟩⟩;apply List.ext_getElem?;intro j;by_cases hj:j<ys.length
  ·have tw:j<cur.size:=by omega
   have vM:j<(ys.mergeSort λx y=>!(ltOf kC) y x).length:=by omega
   rw[List.getElem?_take_of_lt (by omega),Array.getElem?_toList,List.getElem?_map,List.getElem?_map,aQ vM];simp[putCells,tw,hj,pS]
  ·rw[List.getElem?_take_eq_none (by omega),List.getElem?_eq_none (by simp;omega)]
 ·subst hw;exact Ww pS _
def fo(W:World)(B:Nat)(e:List Value)(h:Np.Hist):Prop:=∃ (hv cv:Value) (s:ByteArray) (dv cE:Value),e = [hv,cv,.string s,.int .i64 h.anchor.type,.int .i64 h.anchor.life,dv,cE,.int .i64 h.drift,.int .i64 h.stop]/\s.data.toList=h.anchor.name/\s.size<=140737488355328/\
 SlR gz 3 W B hv h.hosts/\SlR jR 5 W B cv h.copies/\SlR bF 3 W B dv h.anchor.data/\SlR gB 1 W B cE h.hints
theorem lE:dl fo:=λ_ _ _ _ _ ⟨hv,cv,s,dv,cE,h0,h1,h2,h3,h4,h5,h6⟩ hb=>⟨hv,cv,s,dv,cE,h0,h1,h2,h3.keep km hb,h4.keep kk hb,h5.keep cH hb,h6.keep lG hb⟩
theorem lF:dJ fo:=λ_ _ _ _ _ ⟨hv,cv,s,dv,cE,h0,h1,h2,h3,h4,h5,h6⟩ hb=>⟨hv,cv,s,dv,cE,h0,h1,h2,h3.more sh hb,h4.more r9 hb,h5.more du hb,h6.more sj hb⟩
def Np.xi(h:Np.Hist):Prop:=h.copies.length<=500/\∀ c∈h.copies,c.zone.sets.length<=20000
theorem UR{h:Np.Hist}(v:Np.VHist h):∀ x∈Np.cM (h.copies.map (·.zone.apex)),Np.aG x=true:=λx hx=>by
 obtain⟨c,hc,rfl⟩:=List.mem_map.1 (Np.wI.1 hx);have h1:=(v.each c hc).zone.right;unfold Np.eF at h1;simp only[Bool.and_eq_true] at h1;exact h1.1.1
theorem aMK(e:List Value)(h:Np.Hist)(hf:Np.xi h)(w:World)(hR:iP w w.heap.size)(hh:fo w w.heap.size e h) :
 Calls prog 60 #[.agg e.toArray] w λe w'=>((Np.VHist h/\∃ v',e = .returned (.tuple #[v',.int .i64 0])/\ck w.heap.size w' v' (Np.apexes h.copies))\/(¬ Np.VHist h/\e = .returned (.tuple #[.slice none 0 0,.int .i64 1])))/\Below w.heap.size w w':=by
 obtain⟨hv,cv,s,dv,cE,rfl,h1,h2,h3,h4,h5,h6⟩:=hh;obtain⟨hosts,copies,⟨name,ty,life,data⟩,hints,drift,stop⟩:=h;dsimp only at h1 h3 h4 h5 h6;subst h1;have H3:=jq h3;have H4:=jq h4;have H5:=jq h5;have H6:=jq h6;have gd:=jq hR;have il:=jq hf;obtain⟨A1,c1,rfl,_,_⟩:=al h3;obtain⟨A2,c2,rfl,_,_⟩:=al h4;obtain⟨A3,c3,rfl,_,_⟩:=al h5;obtain⟨A4,c4,rfl,_,_⟩:=al h6;clear h3 h4 h5 h6 hR hf;obtain⟨r,hr⟩:∃ r,Np.yes (Np.VHist ⟨hosts,copies,⟨s.data.toList,ty,life,data⟩,hints,drift,stop⟩)=r:=⟨_,rfl⟩;have oM:=jq hr;obtain⟨n1,bp⟩:∃ n,hosts.length=n:=⟨_,rfl⟩;obtain⟨n2,bJ⟩:∃ n,copies.length=n:=⟨_,rfl⟩;obtain⟨n3,di⟩:∃ n,data.length=n:=⟨_,rfl⟩;obtain⟨n4,dO⟩:∃ n,hints.length=n:=⟨_,rfl⟩;rw[bp] at H3 |-;rw[bJ] at H4 |-;rw[di] at H5 |-;rw[dO] at H6 |-;clear hr bp bJ di dO;obtain⟨X,hX⟩:∃ X,w.heap.size=X:=⟨_,rfl⟩;have kA:=jq hX;obtain⟨W1,an⟩:∃ W1,w.alloc (.cells #[.slice A1 n1 c1,.slice A2 n2 c2,.string s,.int .i64 ty,.int .i64 life,.slice A3 n3 c3,.slice A4 n4 c4,.int .i64 drift,.int .i64 stop] 29)=W1:=⟨_,rfl⟩;have aL:Below w.heap.size w W1:=by rw[<-an];exact (vQ _ _).alloc (bQ _) _
 have kP:W1.heap.size=w.heap.size+1:=by rw[<-an];simp
 have k0:W1.cell? ⟨X,0,none⟩=some (.slice A1 n1 c1):=by rw[<-an,<-hX];simp[go_sem]
 have k1:W1.cell? ⟨X,1,none⟩=some (.slice A2 n2 c2):=by rw[<-an,<-hX];simp[go_sem]
 have k2:W1.cell? ⟨X,2,none⟩=some (.string s):=by rw[<-an,<-hX];simp[go_sem]
 have k3:W1.cell? ⟨X,3,none⟩=some (.int .i64 ty):=by rw[<-an,<-hX];simp[go_sem]
 have k4:W1.cell? ⟨X,4,none⟩=some (.int .i64 life):=by rw[<-an,<-hX];simp[go_sem]
 have k5:W1.cell? ⟨X,5,none⟩=some (.slice A3 n3 c3):=by rw[<-an,<-hX];simp[go_sem]
 have k6:W1.cell? ⟨X,6,none⟩=some (.slice A4 n4 c4):=by rw[<-an,<-hX];simp[go_sem]
 have k7:W1.cell? ⟨X,7,none⟩=some (.int .i64 drift):=by rw[<-an,<-hX];simp[go_sem]
 have k8:W1.cell? ⟨X,8,none⟩=some (.int .i64 stop):=by rw[<-an,<-hX];simp[go_sem]
 rw[hX] at aL kP H3 H4 H5 H6 gd |-;have aU:=jq aL;clear aL;go_enter func60,ntmps60;go_wp2_with fail;refine (Of _ hosts _ copies s h2 ty life _ data _ hints drift stop il.out.1 il.out.2 _ ((gd.out.keep aU.out).more (by omega)) ((H3.out.keep km aU.out).more sh (by omega)) ((H4.out.keep kk aU.out).more r9 (by omega)) ((H5.out.keep cH aU.out).more du (by omega)) ((H6.out.keep lG aU.out).more sj (by omega))).mono ?_;rintro e w2 ⟨rfl,ac⟩;have aM:=ac.size;have m1:w2.cell? ⟨X,1,none⟩=some (.slice A2 n2 c2):=(ac.cell (by dsimp only;omega)).trans k1;have ak:=jq (aU.out.trans (ac.mono (by omega)));clear ac an k0 k1 k2 k3 k4 k5 k6 k7 k8 hX;rw[oM.out]
 cases r with
 | false=>
  have HN:Hid (¬ Np.VHist ⟨hosts,copies,⟨s.data.toList,ty,life,data⟩,hints,drift,stop⟩):=jq (λh=>by have:=Np.bO h;rw[oM.out] at this;cases this);go_wp2_with fail;go_ret2;exact⟨.inr ⟨HN.out,rfl⟩,ak.out⟩
 | true=>
  have HV:Hid (Np.VHist ⟨hosts,copies,⟨s.data.toList,ty,life,data⟩,hints,drift,stop⟩):=jq (Np.fm.1 oM.out);have sM:Hid (copies.length<=500):=jq il.out.1;go_wp2_with fail;refine (Ru _ copies (by have:=sM.out;omega) _ ((H4.out.keep kk ak.out).more r9 (by omega))).mono ?_;rintro e w3 ⟨v3,rfl,ke,am⟩;have dP:=am.size;have gb:=jq ke;have az:=jq (ak.out.trans (am.mono (by omega)));clear ke am;go_wp2_with fail;refine (azX w2.heap.size _ _ _ gb.out (UR HV.out) (by have:=Np.ub (copies.map (·.zone.apex));rw[List.length_map] at this;have:=sM.out;omega)).mono ?_;rintro e w4 ⟨rfl,lv,N8⟩;have H4':=jq (And.intro (ck.weak lv (show X<=w2.heap.size by omega)) (az.out.grown N8 (by omega) (λq hq=>by have:=(World.ownsRow.lt gb.out q hq).1;omega)));clear lv N8;go_wp2_with fail;go_ret2;exact⟨.inl ⟨HV.out,_,rfl,H4'.out.1⟩,H4'.out.2⟩
end
section
open Go.RowKit
theorem axX(l:List Np.Copy)(t:Int):(Np.wW l t).length<=l.length:=List.length_filter_le _ _
theorem Tryz.infoPlaced:(prog.info? 72).map (λi=>(i.zero,i.size,i.bytes))=some (some (.agg #[.int .i64 0,.string ⟨#[]⟩,.slice none 0 0]),3,48):=by kernel_rfl
end
end Go.Proofs.YtfnopgdcaanaiaaGreatDoor
