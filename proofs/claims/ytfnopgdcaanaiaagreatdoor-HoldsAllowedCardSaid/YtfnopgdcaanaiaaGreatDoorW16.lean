/- Parts of the proof. No condition. -/
import Derived.Test.YtfnopgdcaanaiaaGreatDoorW13
import Derived.Test.YtfnopgdcaanaiaaGreatDoorW14
set_option linter.all false
set_option maxRecDepth 100000
set_option maxHeartbeats 8000000
namespace Go.Proofs.YtfnopgdcaanaiaaGreatDoor
open Go.Proofs.Tryz
section
open Go.RowKit
theorem afK(v:Value)(l:List Np.Host)(w:World)(hd:SlR kf 3 w w.heap.size v l) :
 Calls prog 87 #[v] w (aFQ w.heap.size w (.bool (Np.yes (Np.VHosts l)))):=by
 obtain⟨r,hr⟩:=aCQ (Np.yes (Np.VHosts l));rw[hr];have HR:=jq hr;have HD:=jq hd;obtain⟨A,c,rfl,bq,bN⟩:=ak hd;clear hr hd;by_cases uU:l.length<=64
 ·have E0:=jq uU;go_enter func87,ntmps87;go_wp2_with fail;go_loopw [3] (λi wr=>∃ k:Nat,k<=l.length/\i = .int .i64 k/\Hid (Below w.heap.size w wr)/\Hid (∀ j x,j<k->l[j]?=some x->Np.HostOk x)/\Hid (((l.take k).map (·.addr)).Nodup)) (λi _=>l.length - (intOf i).toNat)
  case atStart=>exact⟨0,jQ _,rfl,jq (vQ _ _),jq (λj x hj=>by omega),jq (by simp)⟩
  case round=>
   obtain⟨k,hk,rfl,HB,HA,od⟩:=hrel;have dJ:=HB.out.size;by_cases aa:k<l.length
   ·obtain⟨x,ac⟩:∃ x,l[k]?=some x:=⟨_,aQ aa⟩;obtain⟨b,o,sn,rfl,bR,ar,cZ,f0,f1,f2⟩:=Bp (HD.out.keep o6 HB.out) ac;have ht:l.take (k+1)=l.take k ++ [x]:=by
     obtain⟨hl,he⟩:=cQ.1 ac;rw[fQ hl,he]
    have HT:=jq ht;have HN:Hid (Np.HostOk x->∀ j y,j<k+1->l[j]?=some y->Np.HostOk y):=jq (λh j y hj hy=>by
     by_cases e:j=k
     ·subst e;rw[ac] at hy;cases hy;exact h
     ·exact HA.out j y (by omega) hy)
    have HF:Hid (¬ Np.HostOk x->r=false):=jq (λh=>by rw[<-HR.out];exact Np.aC λq=>h (q.each x (gQ ac)));have um:Hid (x.addr∈(l.take k).map (·.addr)->r=false):=jq (λh=>by
     rw[<-HR.out];refine Np.aC λq=>?_;have h1:=q.addrs;have h2:(l.take (k+1)).map (·.addr) <+: l.map (·.addr):=by rw[List.map_take];exact List.take_prefix _ _
     have h3:=h1.sublist h2.sublist;rw[ht,List.map_append,List.nodup_append] at h3;exact h3.2.2 x.addr h x.addr (by simp) rfl)
    have aS:=jq ar;have eT:Hid (∀ o,Below wr.heap.size wr (wr.alloc o)):=jq (λo=>(vQ _ _).alloc (bQ _) _);obtain⟨w2,aj⟩:=aCQ (wr.alloc (.cells #[.string sn,.int .i64 x.addr,.int .i64 x.owner] 101));have ae:Below wr.heap.size wr w2:=by rw[<-aj];exact eT.out _
    have p0:w2.cell? ⟨wr.heap.size,0,none⟩=some (.string sn):=by rw[<-aj];simp[go_sem]
    have p1:w2.cell? ⟨wr.heap.size,1,none⟩=some (.int .i64 x.addr):=by rw[<-aj];simp[go_sem]
    have p2:w2.cell? ⟨wr.heap.size,2,none⟩=some (.int .i64 x.owner):=by rw[<-aj];simp[go_sem]
    have aK:wr.heap.size<w2.heap.size:=by rw[<-aj];simp
    have ai:=jq ae;have bV:(0:Int)<=(k:Int):=by omega
    have bT:(k:Int)<(l.length:Int):=by omega
    clear ac ar ht ae;go_wp2_with fail;clear aj f0 f1 f2;refine (tW sn cZ _).mono ?_;rintro e w3 ⟨rfl,al⟩;have eF:=al.size;have am:=aBY ai al;replace p0:w3.cell? ⟨wr.heap.size,0,none⟩=some (.string sn):=(al.cell (by simpa using aK)).trans p0;replace p1:w3.cell? ⟨wr.heap.size,1,none⟩=some (.int .i64 x.addr):=(al.cell (by simpa using aK)).trans p1;replace p2:w3.cell? ⟨wr.heap.size,2,none⟩=some (.int .i64 x.owner):=(al.cell (by simpa using aK)).trans p2;clear al
    cases lp:Np.aA sn.data.toList with
    | false=>
     have HX:Hid (r=false):=jq (HF.out λh=>by have:=h.name;rw[<-aS.out,lp] at this;cases this);clear lp;go_wp2_with fail;go_ret;exact⟨ag HX.out.symm,HB.out.trans (am.out.aDQ)⟩
    | true=>
     have ic:=jq lp;clear lp;go_wp2_with fail;refine (Jq sn ic.out _).mono ?_;rintro e w4 ⟨rfl,aw⟩;have fd:=aw.size;have aP:=aBY am aw;replace p1:=aBX aw p1;replace p2:=aBX aw p2;clear aw p0
     cases rX:Np.dP sn.data.toList with
     | true=>
      have HX:Hid (r=false):=jq (HF.out λh=>by have:=h.wild;rw[<-aS.out,rX] at this;cases this);clear rX;go_wp2_with fail;go_ret;exact⟨ag HX.out.symm,HB.out.trans (aP.out.aDQ)⟩
     | false=>
      have Gk:=jq rX;clear rX;have nA:decide (x.addr<1)=true\/decide (x.addr<1)=false/\(decide (1000000<x.addr)=true\/decide (1000000<x.addr)=false/\(decide (x.owner<0)=true\/decide (x.owner<0)=false/\(decide (31<x.owner)=true\/decide (31<x.owner)=false))):=by
       simp only[Qa,decide_eq_false_iff_not];omega
      rcases nA with d1 | ⟨d1,d2 | ⟨d2,d3 | ⟨d3,d4 | d4⟩⟩⟩
      rotate_right
      ·have bl:Hid (Np.HostOk x):=jq (by
        simp only[decide_eq_false_iff_not] at d1 d2 d3 d4;exact⟨by rw[<-aS.out];exact ic.out,by rw[<-aS.out];exact Gk.out,by omega,by omega⟩)
       go_wp2_with fail;obtain⟨wo,rfl⟩:=aCY wr;go_loopw [6] (λi wx=>∃ m:Nat,m<=k/\i = .int .i64 m/\Hid (Below w4.heap.size w4 wx)/\Hid (∀ j y,j<m->l[j]?=some y->y.addr≠x.addr)) (λi _=>k - (intOf i).toNat)
       case atStart=>exact⟨0,jQ _,rfl,jq (vQ _ _),jq (λj y hj=>by omega)⟩
       case round=>
        obtain⟨m,hm,rfl,gE,HX⟩:=hrel;have hzx:=gE.out.size;have q1:wr.cell? ⟨wo.heap.size,1,none⟩=some (.int .i64 x.addr):=aBX gE.out p1;have aZ:Hid (Below wo.heap.size wo wr):=aBY aP gE.out;by_cases ya:m<k
        ·obtain⟨y,eq⟩:∃ y,l[m]?=some y:=⟨_,aQ (by omega)⟩;obtain⟨b9,o9,sy,MO,_,_,_,_,g1,_⟩:=Bp (HD.out.keep o6 (HB.out.trans (aZ.out.aDQ))) eq;simp only[Option.some.injEq,Addr.mk.injEq,and_true] at MO;obtain⟨rfl,rfl⟩:=MO;have jj:(0:Int)<=(m:Int):=by omega
         have NK:(m:Int)<(l.length:Int):=by omega
         have gD:decide ((m:Int)<(k:Int))=true:=by simp;omega
         by_cases he:y.addr=x.addr
         ·have HY:Hid (r=false):=jq (um.out (List.mem_map.2 ⟨y,List.mem_iff_getElem?.2 ⟨m,by rw[List.getElem?_take,Qb ya];exact eq⟩,he⟩));have ge:(y.addr == x.addr)=true:=by simpa using he
          clear he eq;go_wp2_with fail;go_quiet (fail);go_wp2_with fail;go_ret;exact⟨ag HY.out.symm,below_drewN (HB.out.trans (aZ.out.aDQ)) _⟩
         ·have HY:Hid (∀ j z,j<m+1->l[j]?=some z->z.addr≠x.addr):=jq (λj z hj hz=>by
           by_cases e:j=m
           ·subst e;rw[eq] at hz;cases hz;exact he
           ·exact HX.out j z (by omega) hz)
          have ge:(y.addr == x.addr)=false:=by simpa using he
          clear he eq;go_wp2_with fail;go_quiet (fail);go_wp2_with fail;go_roundw
          case rel=>exact⟨m+1,by omega,by go_num,jq (below_drewN gE.out _),HY⟩
          case measure=>simp[intOf] <;> omega
        ·have gD:decide ((m:Int)<(k:Int))=false:=by simp;omega
         have FN:Hid (((l.take (k+1)).map (·.addr)).Nodup):=jq (by
          rw[HT.out,List.map_append,List.nodup_append];refine⟨od.out,by simp,λy hy z hz e=>?_⟩;simp at hz;obtain⟨u,hu,yl⟩:=List.mem_map.1 hy;obtain⟨j,hj,rfl⟩:=nQ.1 hu;rw[List.length_take] at hj;rw[List.getElem_take] at yl;exact HX.out j _ (by omega) (aQ (by omega)) (by rw[yl,e,hz]))
         go_wp2_with fail;go_roundw
         case rel=>exact⟨k+1,by omega,by go_num,aBY HB aZ.out,jq (HN.out bl.out),FN⟩
         case measure=>simp[intOf] <;> omega
      all_goals
       have HX:Hid (r=false):=jq (HF.out λh=>by
        have h1:=h.addr;have h2:=h.owner;simp only[Qa,decide_eq_false_iff_not] at *;omega)
       go_wp2_with fail;go_ret;exact⟨ag HX.out.symm,HB.out.trans (aP.out.aDQ)⟩
   ·go_wp2_with fail;go_ret;refine⟨ag ?_,HB.out⟩;rw[<-HR.out];refine (Np.ba ⟨E0.out,λx hx=>?_,?_⟩).symm
    ·obtain⟨j,hj,rfl⟩:=nQ.1 hx;exact HA.out j _ (by omega) (aQ hj)
    ·have:=od.out
     rwa [kQ (by omega)] at this
 ·have HX:Hid (r=false):=jq (by rw[<-HR.out];exact Np.aC λq=>uU q.few);have Vo:64<l.length:=by omega
  clear uU;go_enter func87,ntmps87;go_wp2_with fail;go_ret;exact⟨ag HX.out.symm,vQ _ _⟩
theorem avK{h:Np.Hist} : Np.VHist h↔(((Np.VHosts h.hosts/\Np.VRoot h.anchor h.hints)/\Np.sT h)/\∀ c∈h.copies,Np.CopyOk h c)/\h.copies.Pairwise λc d=>¬ Np.jX c d:=
 ⟨λv=>⟨⟨⟨⟨v.hosts,v.root⟩,v.stop,v.drift⟩,v.each⟩,v.apart⟩,λv=>⟨v.1.1.2.1,v.1.1.2.2,v.1.1.1.1,v.1.1.1.2,v.1.2,v.2⟩⟩
theorem afJ(hv:Value)(hs:List Np.Host)(cv:Value)(l:List Np.Copy)(s:ByteArray)(an:s.size<=140737488355328)(ty life:Int)(dv:Value)(d:List Np.Datum)(dV:Value)(hints:List Int)(drift stop:Int)(hl:l.length<=500)(hz:∀ p∈l,p.zone.sets.length<=20000)(w:World)
 (hh:SlR kf 3 w w.heap.size hv hs) (hd:SlR ma 5 w w.heap.size cv l) (hdd:SlR bK 3 w w.heap.size dv d) (pF:SlR kP 1 w w.heap.size dV hints) :
 Calls prog 44 #[.agg #[hv,cv,.string s,.int .i64 ty,.int .i64 life,dv,dV,.int .i64 drift,.int .i64 stop]] w λe w'=>e = .returned (.bool (Np.yes (Np.VHist ⟨hs,l,⟨s.data.toList,ty,life,d⟩,hints,drift,stop⟩)))/\Below w.heap.size w w':=by
 obtain⟨r,hr⟩:=aCQ (Np.yes (Np.VHist ⟨hs,l,⟨s.data.toList,ty,life,d⟩,hints,drift,stop⟩));obtain⟨iG,rH⟩:∃ h:Np.Hist,(⟨hs,l,⟨s.data.toList,ty,life,d⟩,hints,drift,stop⟩:Np.Hist)=h:=⟨_,rfl⟩;rw[hr];have HR:Hid (Np.yes ((((Np.VHosts hs/\Np.VRoot ⟨s.data.toList,ty,life,d⟩ hints)/\Np.sT iG)/\∀ c∈l,Np.CopyOk iG c)/\l.Pairwise λc d=>¬ Np.jX c d)=r):=jq (by rw[<-hr,<-rH];exact (Np.sw (avK (h:=⟨hs,l,⟨s.data.toList,ty,life,d⟩,hints,drift,stop⟩))).symm);have jw:Hid (Np.sT iG↔(1<=stop/\stop<=10000000)/\(0<=drift/\drift<=1000)):=jq (by rw[<-rH];exact Iff.rfl);have jb:Hid (∀ c,Np.CopyOk iG c↔(0<=c.host/\c.host<hs.length)/\(0<=c.frm/\c.frm<c.til/\c.til<=stop)/\Np.VZone c.zone):=jq (λc=>by rw[<-rH];exact⟨λh=>⟨h.host,h.times,h.zone⟩,λh=>⟨h.1,h.2.1,h.2.2⟩⟩);have HH:=jq hh;have HD:=jq hd;have qd:=jq hdd;have qj:=jq pF;have HZ:=jq hz;obtain⟨A1,c1,rfl,_,_⟩:=ak hh;obtain⟨A2,c2,rfl,_,_⟩:=ak hd;obtain⟨A3,c3,rfl,_,_⟩:=ak hdd;obtain⟨A4,c4,rfl,_,_⟩:=ak pF;clear hr rH hd hh hdd pF hz;obtain⟨n1,bU⟩:=aCQ hs.length;obtain⟨n2,cV⟩:=aCQ l.length;obtain⟨n3,eY⟩:=aCQ d.length;obtain⟨n4,fI⟩:=aCQ hints.length;rw[bU] at HH jb |-;rw[cV] at HD hl |-;rw[eY] at qd |-;rw[fI] at qj |-;have HN:=jq (And.intro bU (And.intro cV (And.intro eY fI)));clear bU cV eY fI;obtain⟨W1,ap⟩:=aCQ (w.alloc (.cells #[.slice A1 n1 c1,.slice A2 n2 c2,.string s,.int .i64 ty,.int .i64 life,.slice A3 n3 c3,.slice A4 n4 c4,.int .i64 drift,.int .i64 stop] 29));have aD:Below w.heap.size w W1:=by rw[<-ap];exact (vQ _ _).alloc (bQ _) _
 have jR:W1.heap.size=w.heap.size+1:=by rw[<-ap];simp
 obtain⟨X,hX⟩:=aCQ w.heap.size;have kM:=jq hX;have k0:W1.cell? ⟨X,0,none⟩=some (.slice A1 n1 c1):=by rw[<-ap,<-hX];simp[go_sem]
 have k1:W1.cell? ⟨X,1,none⟩=some (.slice A2 n2 c2):=by rw[<-ap,<-hX];simp[go_sem]
 have k2:W1.cell? ⟨X,2,none⟩=some (.string s):=by rw[<-ap,<-hX];simp[go_sem]
 have k3:W1.cell? ⟨X,3,none⟩=some (.int .i64 ty):=by rw[<-ap,<-hX];simp[go_sem]
 have k4:W1.cell? ⟨X,4,none⟩=some (.int .i64 life):=by rw[<-ap,<-hX];simp[go_sem]
 have k5:W1.cell? ⟨X,5,none⟩=some (.slice A3 n3 c3):=by rw[<-ap,<-hX];simp[go_sem]
 have k6:W1.cell? ⟨X,6,none⟩=some (.slice A4 n4 c4):=by rw[<-ap,<-hX];simp[go_sem]
 have k7:W1.cell? ⟨X,7,none⟩=some (.int .i64 drift):=by rw[<-ap,<-hX];simp[go_sem]
 have k8:W1.cell? ⟨X,8,none⟩=some (.int .i64 stop):=by rw[<-ap,<-hX];simp[go_sem]
 rw[hX] at aD jR HH HD qd qj;rw[hX];have aZ:=jq aD;clear aD;go_enter func44,ntmps44;go_wp2_with fail;refine (afK _ hs _ ((HH.out.keep o6 aZ.out).more yx (by omega))).mono ?_;rintro e w2 ⟨rfl,ae⟩;have aK:=ae.size;replace k0:=aBX ae k0;replace k1:=aBX ae k1;replace k2:=aBX ae k2;replace k3:=aBX ae k3;replace k4:=aBX ae k4;replace k5:=aBX ae k5;replace k6:=aBX ae k6;replace k7:=aBX ae k7;replace k8:=aBX ae k8;have ai:=aBY aZ ae;clear ae ap;obtain⟨b1,aB⟩:=aCQ (Np.yes (Np.VHosts hs));rw[aB];have sS:=jq aB;clear aB
 cases b1 with
 | false=>
  have HX:Hid (r=false):=jq (by rw[<-HR.out];exact Np.aC λq=>by have:=Np.ba q.1.1.1.1;rw[sS.out] at this;cases this);go_wp2_with fail;go_ret;exact⟨ag HX.out.symm,ai.out⟩
 | true=>
 go_wp2_with fail;refine (agK s an ty life _ d _ hints _ ((qd.out.keep cM ai.out).more dt (by omega)) ((qj.out.keep qV ai.out).more yy (by omega))).mono ?_;rintro e w3 ⟨rfl,al⟩;have eF:=al.size;replace k0:=aBX al k0;replace k1:=aBX al k1;replace k2:=aBX al k2;replace k3:=aBX al k3;replace k4:=aBX al k4;replace k5:=aBX al k5;replace k6:=aBX al k6;replace k7:=aBX al k7;replace k8:=aBX al k8;have am:=aBY ai al;clear al;obtain⟨b2,ae⟩:=aCQ (Np.yes (Np.VRoot ⟨s.data.toList,ty,life,d⟩ hints));rw[ae];have zF:=jq ae;clear ae
 cases b2 with
 | false=>
  have HX:Hid (r=false):=jq (by rw[<-HR.out];exact Np.aC λq=>by have:=Np.ba q.1.1.1.2;rw[zF.out] at this;cases this);go_wp2_with fail;go_ret;exact⟨ag HX.out.symm,am.out⟩
 | true=>
 by_cases g1:stop<1
 ·have dg1:decide (stop<1)=true:=uQ g1;have HX:Hid (r=false):=jq (by rw[<-HR.out];exact Np.aC λq=>by have:=jw.out.1 q.1.1.2;omega);clear g1;go_wp2_with fail;go_ret;exact⟨ag HX.out.symm,am.out⟩
 have dg1:decide (stop<1)=false:=tQ g1;by_cases g2:10000000<stop
 ·have dg2:decide (10000000<stop)=true:=uQ g2;have HX:Hid (r=false):=jq (by rw[<-HR.out];exact Np.aC λq=>by have:=jw.out.1 q.1.1.2;omega);clear g2;go_wp2_with fail;go_ret;exact⟨ag HX.out.symm,am.out⟩
 have dg2:decide (10000000<stop)=false:=tQ g2;by_cases g3:drift<0
 ·have dg3:decide (drift<0)=true:=uQ g3;have HX:Hid (r=false):=jq (by rw[<-HR.out];exact Np.aC λq=>by have:=jw.out.1 q.1.1.2;omega);clear g3;go_wp2_with fail;go_ret;exact⟨ag HX.out.symm,am.out⟩
 have dg3:decide (drift<0)=false:=tQ g3;by_cases g4:1000<drift
 ·have dg4:decide (1000<drift)=true:=uQ g4;have HX:Hid (r=false):=jq (by rw[<-HR.out];exact Np.aC λq=>by have:=jw.out.1 q.1.1.2;omega);clear g4;go_wp2_with fail;go_ret;exact⟨ag HX.out.symm,am.out⟩
 have dg4:decide (1000<drift)=false:=tQ g4;have d5:decide (4000<(n2:Int))=false:=aDJ;have E9:Hid (Np.sT iG):=jq (jw.out.2 (by omega));have dh:Hid (l.length=n2):=jq HN.out.2.1;clear g1 g2 g3 g4;go_wp2_with fail;go_loopw [3] (λi wr=>∃ (k:Nat),k<=n2/\i = .int .i64 k/\w3.heap.size<=wr.heap.size/\Hid (Below w3.heap.size w3 wr)/\Hid (∀ c∈l.take k,Np.CopyOk iG c)/\Hid ((l.take k).Pairwise λc d=>¬ Np.jX c d)) (λi _=>n2 - (intOf i).toNat)
 case atStart=>exact⟨0,jQ _,rfl,bQ _,jq (vQ _ _),jq (by simp),jq (by simp)⟩
 case round=>
  obtain⟨k,hk,rfl,aPX,bC,bl,kH⟩:=hrel;have HB:=aBY am bC.out;have q0:=aBX bC.out k0;have q1:=aBX bC.out k1;have q8:=aBX bC.out k8;by_cases aa:k<n2
  ·obtain⟨x,ac⟩:∃ x,l[k]?=some x:=⟨_,aQ (by rw[dh.out];exact aa)⟩;obtain⟨b,o,sn,vz,rfl,bR,ar,cZ,gd,f0,f1,f2,f3,f4⟩:=uP (HD.out.keep oY HB.out) ac;obtain⟨Az,cz,rfl,_,_⟩:=ak gd;obtain⟨nz,jN⟩:=aCQ x.zone.sets.length;rw[jN] at f4;have HT:Hid (l.take (k+1)=l.take k ++ [x]):=jq (by
    obtain⟨hl,he⟩:=cQ.1 ac;rw[fQ hl,he])
   have HF:Hid (¬ Np.CopyOk iG x->r=false):=jq (λh=>by rw[<-HR.out];exact Np.aC λq=>h (q.1.2 x (gQ ac)));have um:Hid (∀ (j:Nat) (y:Np.Copy),j<k->l[j]?=some y->Np.jX y x->r=false):=jq (λj y hj hy lK=>by
    rw[<-HR.out];refine Np.aC λq=>?_;have h1:=q.2;rw[List.pairwise_iff_getElem] at h1;obtain⟨e1,e2⟩:=cQ.1 hy;obtain⟨e3,e4⟩:=cQ.1 ac;have h2:=h1 j k e1 e3 hj;rw[e2,e4] at h2;exact h2 lK)
   have zH:Hid (x.zone.sets.length<=20000):=jq (HZ.out x (gQ ac));have aS:=jq ar;have iN:Hid (SlR bP 5 wr wr.heap.size (.slice Az nz cz) x.zone.sets):=jq (by rw[<-jN];exact gd.more dH (by omega));obtain⟨w4,bS⟩:=aCQ (wr.alloc (.cells #[.int .i64 x.host,.int .i64 x.frm,.int .i64 x.til,.string sn,.slice Az nz cz] 46));have fd:w4.heap.size=wr.heap.size+1:=by rw[<-bS];simp
   have aw:Below wr.heap.size wr w4:=by rw[<-bS];exact (vQ _ _).alloc (bQ _) _
   have p0:w4.cell? ⟨wr.heap.size,0,none⟩=some (.int .i64 x.host):=by rw[<-bS];simp[go_sem]
   have p1:w4.cell? ⟨wr.heap.size,1,none⟩=some (.int .i64 x.frm):=by rw[<-bS];simp[go_sem]
   have p2:w4.cell? ⟨wr.heap.size,2,none⟩=some (.int .i64 x.til):=by rw[<-bS];simp[go_sem]
   have p3:w4.cell? ⟨wr.heap.size,3,none⟩=some (.string sn):=by rw[<-bS];simp[go_sem]
   have p4:w4.cell? ⟨wr.heap.size,4,none⟩=some (.slice Az nz cz):=by rw[<-bS];simp[go_sem]
   have u0:w4.cell? ⟨X,0,none⟩=some (.slice A1 n1 c1):=aBX aw q0;have u1:w4.cell? ⟨X,1,none⟩=some (.slice (some ⟨b,o,none⟩) n2 c2):=aBX aw q1;have u8:w4.cell? ⟨X,8,none⟩=some (.int .i64 stop):=aBX aw q8;have aP:=aBY HB aw;have Fj:=aBY bC aw;have xy:Hid (SlR bP 5 w4 w4.heap.size (.slice Az nz cz) x.zone.sets):=jq ((iN.out.keep bH aw).more dH aw.size);have AF:X<wr.heap.size:=by omega
   clear ac ar gd jN aw iN;by_cases g1:x.host<0
   ·have dg1:decide (x.host<0)=true:=uQ g1;have HX:Hid (r=false):=jq (HF.out λh=>by have:=(jb.out x).1 h;omega);clear g1;go_wp2_with fail;go_ret;exact⟨ag HX.out.symm,aP.out⟩
   have dg1:decide (x.host<0)=false:=tQ g1;by_cases g2:(n1:Int)<=x.host
   ·have dg2:decide ((n1:Int)<=x.host)=true:=uQ g2;have HX:Hid (r=false):=jq (HF.out λh=>by have:=(jb.out x).1 h;omega);clear g2;go_wp2_with fail;go_ret;exact⟨ag HX.out.symm,aP.out⟩
   have dg2:decide ((n1:Int)<=x.host)=false:=tQ g2;by_cases g3:x.frm<0
   ·have dg3:decide (x.frm<0)=true:=uQ g3;have HX:Hid (r=false):=jq (HF.out λh=>by have:=(jb.out x).1 h;omega);clear g3;go_wp2_with fail;go_ret;exact⟨ag HX.out.symm,aP.out⟩
   have dg3:decide (x.frm<0)=false:=tQ g3;by_cases g4:x.til<=x.frm
   ·have dg4:decide (x.til<=x.frm)=true:=uQ g4;have HX:Hid (r=false):=jq (HF.out λh=>by have:=(jb.out x).1 h;omega);clear g4;go_wp2_with fail;go_ret;exact⟨ag HX.out.symm,aP.out⟩
   have dg4:decide (x.til<=x.frm)=false:=tQ g4;by_cases g5:stop<x.til
   ·have dg5:decide (stop<x.til)=true:=uQ g5;have HX:Hid (r=false):=jq (HF.out λh=>by have:=(jb.out x).1 h;omega);clear g5;go_wp2_with fail;go_ret;exact⟨ag HX.out.symm,aP.out⟩
   have dg5:decide (stop<x.til)=false:=tQ g5;have yZ:Hid ((0<=x.host/\x.host<n1)/\(0<=x.frm/\x.frm<x.til/\x.til<=stop)):=jq (by omega);clear g1 g2 g3 g4 g5;go_wp2_with fail;refine (ahX sn cZ _ x.zone.sets zH.out w4 xy.out).mono ?_;rintro e w5 ⟨rfl,aJ⟩;have iJ:w4.heap.size<=w5.heap.size:=aJ.size;have s0:w5.cell? ⟨wr.heap.size,0,none⟩=some (.int .i64 x.host):=aBX aJ p0;have s1:w5.cell? ⟨wr.heap.size,1,none⟩=some (.int .i64 x.frm):=aBX aJ p1;have s2:w5.cell? ⟨wr.heap.size,2,none⟩=some (.int .i64 x.til):=aBX aJ p2;have s3:w5.cell? ⟨wr.heap.size,3,none⟩=some (.string sn):=aBX aJ p3;have s4:w5.cell? ⟨wr.heap.size,4,none⟩=some (.slice Az nz cz):=aBX aJ p4;have t1:w5.cell? ⟨X,1,none⟩=some (.slice (some ⟨b,o,none⟩) n2 c2):=aBX aJ u1;have cm:=aBY aP aJ;have Ry:=aBY Fj aJ;clear aJ p0 p1 p2 p3 p4 bS f0 f1 f2 f3 f4 u0 u1 u8 q0 q1 q8;obtain⟨rz,eM⟩:=aCQ (Np.yes (Np.VZone ⟨sn.data.toList,x.zone.sets⟩));rw[eM];have ix:=jq eM;clear eM
   cases rz with
   | false=>
    have HX:Hid (r=false):=jq (HF.out λh=>by
     have h1:=((jb.out x).1 h).2.2;have h2:x.zone=⟨sn.data.toList,x.zone.sets⟩:=by rw[aS.out]
     rw[h2] at h1;have h3:=Np.ba h1;rw[ix.out] at h3
     cases h3)
    go_wp2_with fail;go_ret;exact⟨ag HX.out.symm,cm.out⟩
   | true=>
    have jc:Hid (Np.CopyOk iG x):=jq ((jb.out x).2 ⟨yZ.out.1,yZ.out.2,by
     have h2:x.zone=⟨sn.data.toList,x.zone.sets⟩:=by rw[aS.out]
     rw[h2];exact Np.fj.1 ix.out⟩)
    have FR:Hid (∀ c∈l.take (k+1),Np.CopyOk iG c):=jq (λc hc=>by
     rw[HT.out] at hc;rcases List.mem_append.1 hc with hc | hc
     ·exact bl.out c hc
     ·rw[List.mem_singleton] at hc;subst hc;exact jc.out)
    obtain⟨Y,hY⟩:=aCQ wr.heap.size;rw[hY] at s0 s1 s2 s3 s4 AF fd;have AG:Y<w5.heap.size:=by omega
    have aPK:w3.heap.size<=w5.heap.size:=by omega
    obtain⟨wo,rfl⟩:=aCY wr;go_wp2_with fail;go_loopw [5] (λjv wi=>∃ (j:Nat),j<=k/\jv = .int .i64 j/\Hid (Below w5.heap.size w5 wi)/\Hid (∀ (t:Nat) (y:Np.Copy),t<j->l[t]?=some y->¬ Np.jX y x)) (λjv _=>k - (intOf jv).toNat)
    case atStart=>exact⟨0,jQ _,rfl,jq (vQ _ _),jq (λt y ht=>by omega)⟩
    case round=>
     obtain⟨j,tj,rfl,cU,HQ⟩:=hrel;have tO:=cU.out.size;by_cases hj:j<k
     ·obtain⟨y,eq⟩:∃ y,l[j]?=some y:=⟨_,aQ (by rw[dh.out];omega)⟩;have jZ:=aBY cm cU.out;obtain⟨b',o',sy,vy,dT,AK,gU,aNZ,BI,f0,f1,f2,f3,f4⟩:=uP (HD.out.keep oY jZ.out) eq
      cases dT
      obtain⟨Ay,cy,rfl,_,_⟩:=ak BI;obtain⟨ny,rM⟩:=aCQ y.zone.sets.length;rw[rM] at f4;have e0:=(cU.out.cell (p:=⟨Y,0,none⟩) AG).trans s0;have e1:=(cU.out.cell (p:=⟨Y,1,none⟩) AG).trans s1;have e2:=(cU.out.cell (p:=⟨Y,2,none⟩) AG).trans s2;have e3:=(cU.out.cell (p:=⟨Y,3,none⟩) AG).trans s3;have e4:=(cU.out.cell (p:=⟨Y,4,none⟩) AG).trans s4;have m1:=aBX cU.out t1;have MV:Y<wr.heap.size:=by omega
      have aEY:X<wr.heap.size:=by omega
      have aGZ:b<wr.heap.size:=by omega
      have sP:=jq gU;have aY:Hid (∀ o,Below w5.heap.size w5 (wr.alloc o)):=jq (λo=>cU.out.alloc (by omega) _);have HAT:Hid (∀ o,Below X w (wr.alloc o)):=jq (λo=>jZ.out.alloc (by omega) _);have uz:Hid (¬ Np.jX y x->∀ (t:Nat) (z:Np.Copy),t<j+1->l[t]?=some z->¬ Np.jX z x):=jq (λhn t z ht hz=>by
       by_cases e:t=j
       ·subst e;rw[eq] at hz;cases hz;exact hn
       ·exact HQ.out t z (by omega) hz)
      have zG:Hid (Np.jX y x->r=false):=jq (λhc=>um.out j y hj eq hc);have aIZ:(0:Int)<=(j:Int):=by omega
      have pG:(j:Int)<(n2:Int):=by omega
      have aIJ:j<n2:=by omega
      clear eq gU BI rM;by_cases h1:y.host=x.host
      case neg=>
       have eb0:(y.host == x.host)=false:=by simpa using h1
       have ed0:decide (y.host=x.host)=false:=tQ h1;have HX:=jq (uz.out (λhc=>h1 hc.1));clear h1;go_wp2_with fail;go_roundw
       case rel=>exact⟨j+1,by omega,by go_num,jq (aY.out _),HX⟩
       case measure=>simp[intOf] <;> omega
      have eb0:(y.host == x.host)=true:=by simpa using h1
      have ed0:decide (y.host=x.host)=true:=uQ h1;by_cases h2:sy.toList=sn.toList
      case neg=>
       have eb1:(sy.toList == sn.toList)=false:=by simpa using h2
       have HX:=jq (uz.out (λhc=>h2 (by rw[dQ,dQ,sP.out,aS.out];exact hc.2.1)));clear h2;go_wp2_with fail;go_roundw
       case rel=>exact⟨j+1,by omega,by go_num,jq (aY.out _),HX⟩
       case measure=>simp[intOf] <;> omega
      have eb1:(sy.toList == sn.toList)=true:=by simpa using h2
      by_cases h3:y.frm<x.til
      case neg=>
       have ed2:decide (y.frm<x.til)=false:=tQ h3;have HX:=jq (uz.out (λhc=>h3 hc.2.2.1));clear h3;go_wp2_with fail;go_roundw
       case rel=>exact⟨j+1,by omega,by go_num,jq (aY.out _),HX⟩
       case measure=>simp[intOf] <;> omega
      have ed2:decide (y.frm<x.til)=true:=uQ h3;by_cases h4:x.frm<y.til
      case neg=>
       have ed3:decide (x.frm<y.til)=false:=tQ h4;have HX:=jq (uz.out (λhc=>h4 hc.2.2.2));clear h4;go_wp2_with fail;go_roundw
       case rel=>exact⟨j+1,by omega,by go_num,jq (aY.out _),HX⟩
       case measure=>simp[intOf] <;> omega
      have ed3:decide (x.frm<y.til)=true:=uQ h4;have HX:Hid (r=false):=jq (zG.out ⟨h1,by rw[<-sP.out,<-aS.out,<-dQ,<-dQ];exact h2,h3,h4⟩);clear h1 h2 h3 h4;go_wp2_with fail;go_ret;exact⟨ag HX.out.symm,HAT.out _⟩
     ·have Sp:Hid ((l.take (k+1)).Pairwise λc d=>¬ Np.jX c d):=jq (by
       rw[HT.out,List.pairwise_append];refine⟨kH.out,by simp,λc hc d hd=>?_⟩;rw[List.mem_singleton] at hd;subst hd;obtain⟨t,ht,rfl⟩:=nQ.1 hc;rw[List.length_take] at ht;rw[List.getElem_take];exact HQ.out t _ (by omega) (aQ (by omega)))
      go_wp2_with fail;go_roundw
      case rel=>exact⟨k+1,by omega,by go_num,by omega,aBY Ry cU.out,FR,Sp⟩
      case measure=>simp[intOf] <;> omega
  ·have bZ:Hid (l.take k=l):=jq (kQ (by rw[dh.out];omega));have zh:Hid (∀ c∈l,Np.CopyOk iG c):=jq (by have:=bl.out;rwa [bZ.out] at this);have Sq:Hid (l.Pairwise λc d=>¬ Np.jX c d):=jq (by have:=kH.out;rwa [bZ.out] at this);go_wp2_with fail;refine (aeQ _ l (by rw[dh.out];omega) (λc hc=>?_) _ ((HD.out.keep oY HB.out).more BU (by omega))).mono ?_
   ·have h1:=((jb.out c).1 (zh.out c hc)).2.2.right;unfold Np.fh at h1;simp only[Bool.and_eq_true] at h1;exact yQ (so h1.1.1) (by omega)
   rintro e w13 ⟨v13,rfl,Bo,AJ⟩;obtain⟨A13,c13,rfl⟩:=cG.form Bo;have qZ:=aBY HB AJ;have Il:(Np.apexes l).length<=500:=by
    rw[<-Np.GA]
    have:=GO (l.map (·.zone.apex)) []
    rw[List.length_map,dh.out] at this;simp at this;omega
   obtain⟨m13,Bj⟩:=aCQ ((Np.apexes l).length);rw[Bj] at Il |-;have d13:decide ((m13:Int)<=500)=true:=aDX;clear Bo AJ Bj;go_wp2_with fail;go_ret;exact⟨ag (by rw[<-HR.out];exact (Np.ba ⟨⟨⟨⟨Np.fj.1 sS.out,Np.fj.1 zF.out⟩,E9.out⟩,zh.out⟩,Sq.out⟩).symm),qZ.out⟩
end
end Go.Proofs.YtfnopgdcaanaiaaGreatDoor
