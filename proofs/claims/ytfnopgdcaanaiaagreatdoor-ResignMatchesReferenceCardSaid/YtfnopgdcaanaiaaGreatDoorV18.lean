/- Parts of the proof. No condition. -/
import Derived.Test.YtfnopgdcaanaiaaGreatDoorV14
import Derived.Test.YtfnopgdcaanaiaaGreatDoorV15
set_option linter.all false
set_option maxRecDepth 100000
set_option maxHeartbeats 8000000
namespace Go.Proofs.YtfnopgdcaanaiaaGreatDoor
open Go.Proofs.Tryz
section
open Go.RowKit
theorem akY(v:Value)(l:List Np.Host)(w:World)(hd:SlR lN 3 w w.heap.size v l) :
 Calls prog 87 #[v] w (aOJ w.heap.size w (.bool (Np.yes (Np.VHosts l)))):=by
 obtain⟨r,hr⟩:=aJZ (Np.yes (Np.VHosts l));rw[hr];have HR:=jq hr;have HD:=jq hd;obtain⟨A,c,rfl,be,bC⟩:=aj hd;clear hr hd;by_cases vn:l.length<=64
 ·have Fo:=jq vn;go_enter func87,ntmps87;go_wp2_with fail;go_loopw [3] (λi wr=>∃ k:Nat,k<=l.length/\i = .int .i64 k/\Hid (Below w.heap.size w wr)/\Hid (∀ j x,j<k->l[j]?=some x->Np.HostOk x)/\Hid (((l.take k).map (·.addr)).Nodup)) (λi _=>l.length - (intOf i).toNat)
  case atStart=>exact⟨0,jQ _,rfl,jq (vQ _ _),jq (λj x hj=>by omega),jq (by simp)⟩
  case round=>
   obtain⟨k,hk,rfl,HB,HA,zt⟩:=hrel;have bR:=HB.out.size;by_cases aa:k<l.length
   ·obtain⟨x,ab⟩:∃ x,l[k]?=some x:=⟨_,aQ aa⟩;obtain⟨b,o,sn,rfl,bj,ay,cC,f0,f1,f2⟩:=BG (HD.out.keep nR HB.out) ab;have ht:l.take (k+1)=l.take k ++ [x]:=by
     obtain⟨hl,he⟩:=cQ.1 ab;rw[fQ hl,he]
    have HT:=jq ht;have HN:Hid (Np.HostOk x->∀ j y,j<k+1->l[j]?=some y->Np.HostOk y):=jq (λh j y hj hy=>by
     by_cases e:j=k
     ·subst e;rw[ab] at hy;cases hy;exact h
     ·exact HA.out j y (by omega) hy)
    have HF:Hid (¬ Np.HostOk x->r=false):=jq (λh=>by rw[<-HR.out];exact Np.aS λq=>h (q.each x (gQ ab)));have uD:Hid (x.addr∈(l.take k).map (·.addr)->r=false):=jq (λh=>by
     rw[<-HR.out];refine Np.aS λq=>?_;have h1:=q.addrs;have h2:(l.take (k+1)).map (·.addr) <+: l.map (·.addr):=by rw[List.map_take];exact List.take_prefix _ _
     have h3:=h1.sublist h2.sublist;rw[ht,List.map_append,List.nodup_append] at h3;exact h3.2.2 x.addr h x.addr (by simp) rfl)
    have aW:=jq ay;have eb:Hid (∀ o,Below wr.heap.size wr (wr.alloc o)):=jq (λo=>(vQ _ _).alloc (bQ _) _);obtain⟨w2,ag⟩:=aJZ (wr.alloc (.cells #[.string sn,.int .i64 x.addr,.int .i64 x.owner] 101));have ac:Below wr.heap.size wr w2:=by rw[<-ag];exact eb.out _
    have p0:w2.cell? ⟨wr.heap.size,0,none⟩=some (.string sn):=by rw[<-ag];simp[go_sem]
    have p1:w2.cell? ⟨wr.heap.size,1,none⟩=some (.int .i64 x.addr):=by rw[<-ag];simp[go_sem]
    have p2:w2.cell? ⟨wr.heap.size,2,none⟩=some (.int .i64 x.owner):=by rw[<-ag];simp[go_sem]
    have aN:wr.heap.size<w2.heap.size:=by rw[<-ag];simp
    have ah:=jq ac;have bF:(0:Int)<=(k:Int):=by omega
    have bL:(k:Int)<(l.length:Int):=by omega
    clear ab ay ht ac;go_wp2_with fail;clear ag f0 f1 f2;refine (yL sn cC _).mono ?_;rintro e w3 ⟨rfl,ak⟩;have gV:=ak.size;have aA:=aIX ah ak;replace p0:w3.cell? ⟨wr.heap.size,0,none⟩=some (.string sn):=(ak.cell (by simpa using aN)).trans p0;replace p1:w3.cell? ⟨wr.heap.size,1,none⟩=some (.int .i64 x.addr):=(ak.cell (by simpa using aN)).trans p1;replace p2:w3.cell? ⟨wr.heap.size,2,none⟩=some (.int .i64 x.owner):=(ak.cell (by simpa using aN)).trans p2;clear ak
    cases lE:Np.aG sn.data.toList with
    | false=>
     have HX:Hid (r=false):=jq (HF.out λh=>by have:=h.name;rw[<-aW.out,lE] at this;cases this);clear lE;go_wp2_with fail;go_ret;exact⟨ae HX.out.symm,HB.out.trans (aA.out.aKZ)⟩
    | true=>
     have iu:=jq lE;clear lE;go_wp2_with fail;refine (QA sn iu.out _).mono ?_;rintro e w4 ⟨rfl,ar⟩;have jm:=ar.size;have b7:=aIX aA ar;replace p1:=aIZ ar p1;replace p2:=aIZ ar p2;clear ar p0
     cases so:Np.eF sn.data.toList with
     | true=>
      have HX:Hid (r=false):=jq (HF.out λh=>by have:=h.wild;rw[<-aW.out,so] at this;cases this);clear so;go_wp2_with fail;go_ret;exact⟨ae HX.out.symm,HB.out.trans (b7.out.aKZ)⟩
     | false=>
      have GL:=jq so;clear so;have mG:decide (x.addr<1)=true\/decide (x.addr<1)=false/\(decide (1000000<x.addr)=true\/decide (1000000<x.addr)=false/\(decide (x.owner<0)=true\/decide (x.owner<0)=false/\(decide (31<x.owner)=true\/decide (31<x.owner)=false))):=by
       simp only[Qa,decide_eq_false_iff_not];omega
      rcases mG with d1 | ⟨d1,d2 | ⟨d2,d3 | ⟨d3,d4 | d4⟩⟩⟩
      rotate_right
      ·have bG:Hid (Np.HostOk x):=jq (by
        simp only[decide_eq_false_iff_not] at d1 d2 d3 d4;exact⟨by rw[<-aW.out];exact iu.out,by rw[<-aW.out];exact GL.out,by omega,by omega⟩)
       go_wp2_with fail;obtain⟨wo,rfl⟩:=aKQ wr;go_loopw [6] (λi wx=>∃ m:Nat,m<=k/\i = .int .i64 m/\Hid (Below w4.heap.size w4 wx)/\Hid (∀ j y,j<m->l[j]?=some y->y.addr≠x.addr)) (λi _=>k - (intOf i).toNat)
       case atStart=>exact⟨0,jQ _,rfl,jq (vQ _ _),jq (λj y hj=>by omega)⟩
       case round=>
        obtain⟨m,hm,rfl,eL,HX⟩:=hrel;have hzx:=eL.out.size;have q1:wr.cell? ⟨wo.heap.size,1,none⟩=some (.int .i64 x.addr):=aIZ eL.out p1;have aO:Hid (Below wo.heap.size wo wr):=aIX b7 eL.out;by_cases lT:m<k
        ·obtain⟨y,bX⟩:∃ y,l[m]?=some y:=⟨_,aQ (by omega)⟩;obtain⟨b9,o9,sy,Nm,_,_,_,_,g1,_⟩:=BG (HD.out.keep nR (HB.out.trans (aO.out.aKZ))) bX;simp only[Option.some.injEq,Addr.mk.injEq,and_true] at Nm;obtain⟨rfl,rfl⟩:=Nm;have gU:(0:Int)<=(m:Int):=by omega
         have yq:(m:Int)<(l.length:Int):=by omega
         have gK:decide ((m:Int)<(k:Int))=true:=by simp;omega
         by_cases he:y.addr=x.addr
         ·have HY:Hid (r=false):=jq (uD.out (List.mem_map.2 ⟨y,List.mem_iff_getElem?.2 ⟨m,by rw[List.getElem?_take,Qb lT];exact bX⟩,he⟩));have ge:(y.addr == x.addr)=true:=by simpa using he
          clear he bX;go_wp2_with fail;go_quiet (fail);go_wp2_with fail;go_ret;exact⟨ae HY.out.symm,below_drewN (HB.out.trans (aO.out.aKZ)) _⟩
         ·have HY:Hid (∀ j z,j<m+1->l[j]?=some z->z.addr≠x.addr):=jq (λj z hj hz=>by
           by_cases e:j=m
           ·subst e;rw[bX] at hz;cases hz;exact he
           ·exact HX.out j z (by omega) hz)
          have ge:(y.addr == x.addr)=false:=by simpa using he
          clear he bX;go_wp2_with fail;go_quiet (fail);go_wp2_with fail;go_roundw
          case rel=>exact⟨m+1,by omega,by go_num,jq (below_drewN eL.out _),HY⟩
          case measure=>simp[intOf] <;> omega
        ·have gK:decide ((m:Int)<(k:Int))=false:=by simp;omega
         have Gh:Hid (((l.take (k+1)).map (·.addr)).Nodup):=jq (by
          rw[HT.out,List.map_append,List.nodup_append];refine⟨zt.out,by simp,λy hy z hz e=>?_⟩;simp at hz;obtain⟨u,hu,yC⟩:=List.mem_map.1 hy;obtain⟨j,hj,rfl⟩:=nQ.1 hu;rw[List.length_take] at hj;rw[List.getElem_take] at yC;exact HX.out j _ (by omega) (aQ (by omega)) (by rw[yC,e,hz]))
         go_wp2_with fail;go_roundw
         case rel=>exact⟨k+1,by omega,by go_num,aIX HB aO.out,jq (HN.out bG.out),Gh⟩
         case measure=>simp[intOf] <;> omega
      all_goals
       have HX:Hid (r=false):=jq (HF.out λh=>by
        have h1:=h.addr;have h2:=h.owner;simp only[Qa,decide_eq_false_iff_not] at *;omega)
       go_wp2_with fail;go_ret;exact⟨ae HX.out.symm,HB.out.trans (b7.out.aKZ)⟩
   ·go_wp2_with fail;go_ret;refine⟨ae ?_,HB.out⟩;rw[<-HR.out];refine (Np.cu ⟨Fo.out,λx hx=>?_,?_⟩).symm
    ·obtain⟨j,hj,rfl⟩:=nQ.1 hx;exact HA.out j _ (by omega) (aQ hj)
    ·have:=zt.out
     rwa [kQ (by omega)] at this
 ·have HX:Hid (r=false):=jq (by rw[<-HR.out];exact Np.aS λq=>vn q.few);have Wr:64<l.length:=by omega
  clear vn;go_enter func87,ntmps87;go_wp2_with fail;go_ret;exact⟨ae HX.out.symm,vQ _ _⟩
theorem aBX{h:Np.Hist} : Np.VHist h↔(((Np.VHosts h.hosts/\Np.VRoot h.anchor h.hints)/\Np.ta h)/\∀ c∈h.copies,Np.CopyOk h c)/\h.copies.Pairwise λc d=>¬ Np.ko c d:=
 ⟨λv=>⟨⟨⟨⟨v.hosts,v.root⟩,v.stop,v.drift⟩,v.each⟩,v.apart⟩,λv=>⟨v.1.1.2.1,v.1.1.2.2,v.1.1.1.1,v.1.1.1.2,v.1.2,v.2⟩⟩
theorem Qv(hv:Value)(hs:List Np.Host)(cv:Value)(l:List Np.Copy)(s:ByteArray)(al:s.size<=140737488355328)(ty life:Int)(dv:Value)(d:List Np.Datum)(dx:Value)(hints:List Int)(drift stop:Int)(hl:l.length<=500)(hz:∀ p∈l,p.zone.sets.length<=20000)(w:World)
 (hh:SlR lN 3 w w.heap.size hv hs) (hd:SlR oq 5 w w.heap.size cv l) (hdd:SlR cA 3 w w.heap.size dv d) (iS:SlR iM 1 w w.heap.size dx hints) :
 Calls prog 44 #[.agg #[hv,cv,.string s,.int .i64 ty,.int .i64 life,dv,dx,.int .i64 drift,.int .i64 stop]] w λe w'=>e = .returned (.bool (Np.yes (Np.VHist ⟨hs,l,⟨s.data.toList,ty,life,d⟩,hints,drift,stop⟩)))/\Below w.heap.size w w':=by
 obtain⟨r,hr⟩:=aJZ (Np.yes (Np.VHist ⟨hs,l,⟨s.data.toList,ty,life,d⟩,hints,drift,stop⟩));obtain⟨iR,rL⟩:∃ h:Np.Hist,(⟨hs,l,⟨s.data.toList,ty,life,d⟩,hints,drift,stop⟩:Np.Hist)=h:=⟨_,rfl⟩;rw[hr];have HR:Hid (Np.yes ((((Np.VHosts hs/\Np.VRoot ⟨s.data.toList,ty,life,d⟩ hints)/\Np.ta iR)/\∀ c∈l,Np.CopyOk iR c)/\l.Pairwise λc d=>¬ Np.ko c d)=r):=jq (by rw[<-hr,<-rL];exact (Np.uo (aBX (h:=⟨hs,l,⟨s.data.toList,ty,life,d⟩,hints,drift,stop⟩))).symm);have jM:Hid (Np.ta iR↔(1<=stop/\stop<=10000000)/\(0<=drift/\drift<=1000)):=jq (by rw[<-rL];exact Iff.rfl);have jt:Hid (∀ c,Np.CopyOk iR c↔(0<=c.host/\c.host<hs.length)/\(0<=c.frm/\c.frm<c.til/\c.til<=stop)/\Np.VZone c.zone):=jq (λc=>by rw[<-rL];exact⟨λh=>⟨h.host,h.times,h.zone⟩,λh=>⟨h.1,h.2.1,h.2.2⟩⟩);have HH:=jq hh;have HD:=jq hd;have qa:=jq hdd;have qd:=jq iS;have HZ:=jq hz;obtain⟨A1,c1,rfl,_,_⟩:=aj hh;obtain⟨A2,c2,rfl,_,_⟩:=aj hd;obtain⟨A3,c3,rfl,_,_⟩:=aj hdd;obtain⟨A4,c4,rfl,_,_⟩:=aj iS;clear hr rL hd hh hdd iS hz;obtain⟨n1,bK⟩:=aJZ hs.length;obtain⟨n2,bY⟩:=aJZ l.length;obtain⟨n3,dF⟩:=aJZ d.length;obtain⟨n4,dY⟩:=aJZ hints.length;rw[bK] at HH jt |-;rw[bY] at HD hl |-;rw[dF] at qa |-;rw[dY] at qd |-;have HN:=jq (And.intro bK (And.intro bY (And.intro dF dY)));clear bK bY dF dY;obtain⟨W1,an⟩:=aJZ (w.alloc (.cells #[.slice A1 n1 c1,.slice A2 n2 c2,.string s,.int .i64 ty,.int .i64 life,.slice A3 n3 c3,.slice A4 n4 c4,.int .i64 drift,.int .i64 stop] 29));have aB:Below w.heap.size w W1:=by rw[<-an];exact (vQ _ _).alloc (bQ _) _
 have jF:W1.heap.size=w.heap.size+1:=by rw[<-an];simp
 obtain⟨X,hX⟩:=aJZ w.heap.size;have iK:=jq hX;have k0:W1.cell? ⟨X,0,none⟩=some (.slice A1 n1 c1):=by rw[<-an,<-hX];simp[go_sem]
 have k1:W1.cell? ⟨X,1,none⟩=some (.slice A2 n2 c2):=by rw[<-an,<-hX];simp[go_sem]
 have k2:W1.cell? ⟨X,2,none⟩=some (.string s):=by rw[<-an,<-hX];simp[go_sem]
 have k3:W1.cell? ⟨X,3,none⟩=some (.int .i64 ty):=by rw[<-an,<-hX];simp[go_sem]
 have k4:W1.cell? ⟨X,4,none⟩=some (.int .i64 life):=by rw[<-an,<-hX];simp[go_sem]
 have k5:W1.cell? ⟨X,5,none⟩=some (.slice A3 n3 c3):=by rw[<-an,<-hX];simp[go_sem]
 have k6:W1.cell? ⟨X,6,none⟩=some (.slice A4 n4 c4):=by rw[<-an,<-hX];simp[go_sem]
 have k7:W1.cell? ⟨X,7,none⟩=some (.int .i64 drift):=by rw[<-an,<-hX];simp[go_sem]
 have k8:W1.cell? ⟨X,8,none⟩=some (.int .i64 stop):=by rw[<-an,<-hX];simp[go_sem]
 rw[hX] at aB jF HH HD qa qd;rw[hX];have aO:=jq aB;clear aB;go_enter func44,ntmps44;go_wp2_with fail;refine (akY _ hs _ ((HH.out.keep nR aO.out).more wH (by omega))).mono ?_;rintro e w2 ⟨rfl,ac⟩;have aN:=ac.size;replace k0:=aIZ ac k0;replace k1:=aIZ ac k1;replace k2:=aIZ ac k2;replace k3:=aIZ ac k3;replace k4:=aIZ ac k4;replace k5:=aIZ ac k5;replace k6:=aIZ ac k6;replace k7:=aIZ ac k7;replace k8:=aIZ ac k8;have ah:=aIX aO ac;clear ac an;obtain⟨b1,aq⟩:=aJZ (Np.yes (Np.VHosts hs));rw[aq];have sZ:=jq aq;clear aq
 cases b1 with
 | false=>
  have HX:Hid (r=false):=jq (by rw[<-HR.out];exact Np.aS λq=>by have:=Np.cu q.1.1.1.1;rw[sZ.out] at this;cases this);go_wp2_with fail;go_ret;exact⟨ae HX.out.symm,ah.out⟩
 | true=>
 go_wp2_with fail;refine (amZ s al ty life _ d _ hints _ ((qa.out.keep bD ah.out).more bP (by omega)) ((qd.out.keep kj ah.out).more qT (by omega))).mono ?_;rintro e w3 ⟨rfl,ak⟩;have gV:=ak.size;replace k0:=aIZ ak k0;replace k1:=aIZ ak k1;replace k2:=aIZ ak k2;replace k3:=aIZ ak k3;replace k4:=aIZ ak k4;replace k5:=aIZ ak k5;replace k6:=aIZ ak k6;replace k7:=aIZ ak k7;replace k8:=aIZ ak k8;have aA:=aIX ah ak;clear ak;obtain⟨b2,ac⟩:=aJZ (Np.yes (Np.VRoot ⟨s.data.toList,ty,life,d⟩ hints));rw[ac];have zM:=jq ac;clear ac
 cases b2 with
 | false=>
  have HX:Hid (r=false):=jq (by rw[<-HR.out];exact Np.aS λq=>by have:=Np.cu q.1.1.1.2;rw[zM.out] at this;cases this);go_wp2_with fail;go_ret;exact⟨ae HX.out.symm,aA.out⟩
 | true=>
 by_cases g1:stop<1
 ·have dg1:decide (stop<1)=true:=uQ g1;have HX:Hid (r=false):=jq (by rw[<-HR.out];exact Np.aS λq=>by have:=jM.out.1 q.1.1.2;omega);clear g1;go_wp2_with fail;go_ret;exact⟨ae HX.out.symm,aA.out⟩
 have dg1:decide (stop<1)=false:=tQ g1;by_cases g2:10000000<stop
 ·have dg2:decide (10000000<stop)=true:=uQ g2;have HX:Hid (r=false):=jq (by rw[<-HR.out];exact Np.aS λq=>by have:=jM.out.1 q.1.1.2;omega);clear g2;go_wp2_with fail;go_ret;exact⟨ae HX.out.symm,aA.out⟩
 have dg2:decide (10000000<stop)=false:=tQ g2;by_cases g3:drift<0
 ·have dg3:decide (drift<0)=true:=uQ g3;have HX:Hid (r=false):=jq (by rw[<-HR.out];exact Np.aS λq=>by have:=jM.out.1 q.1.1.2;omega);clear g3;go_wp2_with fail;go_ret;exact⟨ae HX.out.symm,aA.out⟩
 have dg3:decide (drift<0)=false:=tQ g3;by_cases g4:1000<drift
 ·have dg4:decide (1000<drift)=true:=uQ g4;have HX:Hid (r=false):=jq (by rw[<-HR.out];exact Np.aS λq=>by have:=jM.out.1 q.1.1.2;omega);clear g4;go_wp2_with fail;go_ret;exact⟨ae HX.out.symm,aA.out⟩
 have dg4:decide (1000<drift)=false:=tQ g4;have d5:decide (4000<(n2:Int))=false:=aKX;have Fr:Hid (Np.ta iR):=jq (jM.out.2 (by omega));have eR:Hid (l.length=n2):=jq HN.out.2.1;clear g1 g2 g3 g4;go_wp2_with fail;go_loopw [3] (λi wr=>∃ (k:Nat),k<=n2/\i = .int .i64 k/\w3.heap.size<=wr.heap.size/\Hid (Below w3.heap.size w3 wr)/\Hid (∀ c∈l.take k,Np.CopyOk iR c)/\Hid ((l.take k).Pairwise λc d=>¬ Np.ko c d)) (λi _=>n2 - (intOf i).toNat)
 case atStart=>exact⟨0,jQ _,rfl,bQ _,jq (vQ _ _),jq (by simp),jq (by simp)⟩
 case round=>
  obtain⟨k,hk,rfl,aZJ,cH,bG,od⟩:=hrel;have HB:=aIX aA cH.out;have q0:=aIZ cH.out k0;have q1:=aIZ cH.out k1;have q8:=aIZ cH.out k8;by_cases aa:k<n2
  ·obtain⟨x,ab⟩:∃ x,l[k]?=some x:=⟨_,aQ (by rw[eR.out];exact aa)⟩;obtain⟨b,o,sn,vz,rfl,bj,ay,cC,eO,f0,f1,f2,f3,f4⟩:=tn (HD.out.keep l7 HB.out) ab;obtain⟨Az,cz,rfl,_,_⟩:=aj eO;obtain⟨nz,jk⟩:=aJZ x.zone.sets.length;rw[jk] at f4;have HT:Hid (l.take (k+1)=l.take k ++ [x]):=jq (by
    obtain⟨hl,he⟩:=cQ.1 ab;rw[fQ hl,he])
   have HF:Hid (¬ Np.CopyOk iR x->r=false):=jq (λh=>by rw[<-HR.out];exact Np.aS λq=>h (q.1.2 x (gQ ab)));have uD:Hid (∀ (j:Nat) (y:Np.Copy),j<k->l[j]?=some y->Np.ko y x->r=false):=jq (λj y hj hy jB=>by
    rw[<-HR.out];refine Np.aS λq=>?_;have h1:=q.2;rw[List.pairwise_iff_getElem] at h1;obtain⟨e1,e2⟩:=cQ.1 hy;obtain⟨e3,e4⟩:=cQ.1 ab;have h2:=h1 j k e1 e3 hj;rw[e2,e4] at h2;exact h2 jB)
   have zO:Hid (x.zone.sets.length<=20000):=jq (HZ.out x (gQ ab));have aW:=jq ay;have jT:Hid (SlR cV 5 wr wr.heap.size (.slice Az nz cz) x.zone.sets):=jq (by rw[<-jk];exact eO.more fD (by omega));obtain⟨w4,cg⟩:=aJZ (wr.alloc (.cells #[.int .i64 x.host,.int .i64 x.frm,.int .i64 x.til,.string sn,.slice Az nz cz] 46));have jm:w4.heap.size=wr.heap.size+1:=by rw[<-cg];simp
   have ar:Below wr.heap.size wr w4:=by rw[<-cg];exact (vQ _ _).alloc (bQ _) _
   have p0:w4.cell? ⟨wr.heap.size,0,none⟩=some (.int .i64 x.host):=by rw[<-cg];simp[go_sem]
   have p1:w4.cell? ⟨wr.heap.size,1,none⟩=some (.int .i64 x.frm):=by rw[<-cg];simp[go_sem]
   have p2:w4.cell? ⟨wr.heap.size,2,none⟩=some (.int .i64 x.til):=by rw[<-cg];simp[go_sem]
   have p3:w4.cell? ⟨wr.heap.size,3,none⟩=some (.string sn):=by rw[<-cg];simp[go_sem]
   have p4:w4.cell? ⟨wr.heap.size,4,none⟩=some (.slice Az nz cz):=by rw[<-cg];simp[go_sem]
   have u0:w4.cell? ⟨X,0,none⟩=some (.slice A1 n1 c1):=aIZ ar q0;have u1:w4.cell? ⟨X,1,none⟩=some (.slice (some ⟨b,o,none⟩) n2 c2):=aIZ ar q1;have u8:w4.cell? ⟨X,8,none⟩=some (.int .i64 stop):=aIZ ar q8;have b7:=aIX HB ar;have FC:=aIX cH ar;have GI:Hid (SlR cV 5 w4 w4.heap.size (.slice Az nz cz) x.zone.sets):=jq ((jT.out.keep bU ar).more fD ar.size);have vv:X<wr.heap.size:=by omega
   clear ab ay eO jk ar jT;by_cases g1:x.host<0
   ·have dg1:decide (x.host<0)=true:=uQ g1;have HX:Hid (r=false):=jq (HF.out λh=>by have:=(jt.out x).1 h;omega);clear g1;go_wp2_with fail;go_ret;exact⟨ae HX.out.symm,b7.out⟩
   have dg1:decide (x.host<0)=false:=tQ g1;by_cases g2:(n1:Int)<=x.host
   ·have dg2:decide ((n1:Int)<=x.host)=true:=uQ g2;have HX:Hid (r=false):=jq (HF.out λh=>by have:=(jt.out x).1 h;omega);clear g2;go_wp2_with fail;go_ret;exact⟨ae HX.out.symm,b7.out⟩
   have dg2:decide ((n1:Int)<=x.host)=false:=tQ g2;by_cases g3:x.frm<0
   ·have dg3:decide (x.frm<0)=true:=uQ g3;have HX:Hid (r=false):=jq (HF.out λh=>by have:=(jt.out x).1 h;omega);clear g3;go_wp2_with fail;go_ret;exact⟨ae HX.out.symm,b7.out⟩
   have dg3:decide (x.frm<0)=false:=tQ g3;by_cases g4:x.til<=x.frm
   ·have dg4:decide (x.til<=x.frm)=true:=uQ g4;have HX:Hid (r=false):=jq (HF.out λh=>by have:=(jt.out x).1 h;omega);clear g4;go_wp2_with fail;go_ret;exact⟨ae HX.out.symm,b7.out⟩
   have dg4:decide (x.til<=x.frm)=false:=tQ g4;by_cases g5:stop<x.til
   ·have dg5:decide (stop<x.til)=true:=uQ g5;have HX:Hid (r=false):=jq (HF.out λh=>by have:=(jt.out x).1 h;omega);clear g5;go_wp2_with fail;go_ret;exact⟨ae HX.out.symm,b7.out⟩
   have dg5:decide (stop<x.til)=false:=tQ g5;have zi:Hid ((0<=x.host/\x.host<n1)/\(0<=x.frm/\x.frm<x.til/\x.til<=stop)):=jq (by omega);clear g1 g2 g3 g4 g5;go_wp2_with fail;refine (anY sn cC _ x.zone.sets zO.out w4 GI.out).mono ?_;rintro e w5 ⟨rfl,av⟩;have kT:w4.heap.size<=w5.heap.size:=av.size;have s0:w5.cell? ⟨wr.heap.size,0,none⟩=some (.int .i64 x.host):=aIZ av p0;have s1:w5.cell? ⟨wr.heap.size,1,none⟩=some (.int .i64 x.frm):=aIZ av p1;have s2:w5.cell? ⟨wr.heap.size,2,none⟩=some (.int .i64 x.til):=aIZ av p2;have s3:w5.cell? ⟨wr.heap.size,3,none⟩=some (.string sn):=aIZ av p3;have s4:w5.cell? ⟨wr.heap.size,4,none⟩=some (.slice Az nz cz):=aIZ av p4;have t1:w5.cell? ⟨X,1,none⟩=some (.slice (some ⟨b,o,none⟩) n2 c2):=aIZ av u1;have cG:=aIX b7 av;have Sl:=aIX FC av;clear av p0 p1 p2 p3 p4 cg f0 f1 f2 f3 f4 u0 u1 u8 q0 q1 q8;obtain⟨rz,eD⟩:=aJZ (Np.yes (Np.VZone ⟨sn.data.toList,x.zone.sets⟩));rw[eD];have iI:=jq eD;clear eD
   cases rz with
   | false=>
    have HX:Hid (r=false):=jq (HF.out λh=>by
     have h1:=((jt.out x).1 h).2.2;have h2:x.zone=⟨sn.data.toList,x.zone.sets⟩:=by rw[aW.out]
     rw[h2] at h1;have h3:=Np.cu h1;rw[iI.out] at h3
     cases h3)
    go_wp2_with fail;go_ret;exact⟨ae HX.out.symm,cG.out⟩
   | true=>
    have re:Hid (Np.CopyOk iR x):=jq ((jt.out x).2 ⟨zi.out.1,zi.out.2,by
     have h2:x.zone=⟨sn.data.toList,x.zone.sets⟩:=by rw[aW.out]
     rw[h2];exact Np.f8.1 iI.out⟩)
    have Gp:Hid (∀ c∈l.take (k+1),Np.CopyOk iR c):=jq (λc hc=>by
     rw[HT.out] at hc;rcases List.mem_append.1 hc with hc | hc
     ·exact bG.out c hc
     ·rw[List.mem_singleton] at hc;subst hc;exact re.out)
    obtain⟨Y,hY⟩:=aJZ wr.heap.size;rw[hY] at s0 s1 s2 s3 s4 vv jm;have AH:Y<w5.heap.size:=by omega
    have aZZ:w3.heap.size<=w5.heap.size:=by omega
    obtain⟨wo,rfl⟩:=aKQ wr;go_wp2_with fail;go_loopw [5] (λjv wi=>∃ (j:Nat),j<=k/\jv = .int .i64 j/\Hid (Below w5.heap.size w5 wi)/\Hid (∀ (t:Nat) (y:Np.Copy),t<j->l[t]?=some y->¬ Np.ko y x)) (λjv _=>k - (intOf jv).toNat)
    case atStart=>exact⟨0,jQ _,rfl,jq (vQ _ _),jq (λt y ht=>by omega)⟩
    case round=>
     obtain⟨j,Bn,rfl,ca,HQ⟩:=hrel;have ub:=ca.out.size;by_cases hj:j<k
     ·obtain⟨y,bX⟩:∃ y,l[j]?=some y:=⟨_,aQ (by rw[eR.out];omega)⟩;have kq:=aIX cG ca.out;obtain⟨b',o',sy,vy,AQ,AO,iC,aXJ,BY,f0,f1,f2,f3,f4⟩:=tn (HD.out.keep l7 kq.out) bX
      cases AQ
      obtain⟨Ay,cy,rfl,_,_⟩:=aj BY;obtain⟨ny,nD⟩:=aJZ y.zone.sets.length;rw[nD] at f4;have e0:=(ca.out.cell (p:=⟨Y,0,none⟩) AH).trans s0;have e1:=(ca.out.cell (p:=⟨Y,1,none⟩) AH).trans s1;have e2:=(ca.out.cell (p:=⟨Y,2,none⟩) AH).trans s2;have e3:=(ca.out.cell (p:=⟨Y,3,none⟩) AH).trans s3;have e4:=(ca.out.cell (p:=⟨Y,4,none⟩) AH).trans s4;have m1:=aIZ ca.out t1;have NG:Y<wr.heap.size:=by omega
      have aMJ:X<wr.heap.size:=by omega
      have NK:b<wr.heap.size:=by omega
      have sX:=jq iC;have bi:Hid (∀ o,Below w5.heap.size w5 (wr.alloc o)):=jq (λo=>ca.out.alloc (by omega) _);have HAT:Hid (∀ o,Below X w (wr.alloc o)):=jq (λo=>kq.out.alloc (by omega) _);have uM:Hid (¬ Np.ko y x->∀ (t:Nat) (z:Np.Copy),t<j+1->l[t]?=some z->¬ Np.ko z x):=jq (λhn t z ht hz=>by
       by_cases e:t=j
       ·subst e;rw[bX] at hz;cases hz;exact hn
       ·exact HQ.out t z (by omega) hz)
      have zN:Hid (Np.ko y x->r=false):=jq (λhc=>uD.out j y hj bX hc);have aQX:(0:Int)<=(j:Int):=by omega
      have kK:(j:Int)<(n2:Int):=by omega
      have aQY:j<n2:=by omega
      clear bX iC BY nD;by_cases h1:y.host=x.host
      case neg=>
       have eb0:(y.host == x.host)=false:=by simpa using h1
       have ed0:decide (y.host=x.host)=false:=tQ h1;have HX:=jq (uM.out (λhc=>h1 hc.1));clear h1;go_wp2_with fail;go_roundw
       case rel=>exact⟨j+1,by omega,by go_num,jq (bi.out _),HX⟩
       case measure=>simp[intOf] <;> omega
      have eb0:(y.host == x.host)=true:=by simpa using h1
      have ed0:decide (y.host=x.host)=true:=uQ h1;by_cases h2:sy.toList=sn.toList
      case neg=>
       have eb1:(sy.toList == sn.toList)=false:=by simpa using h2
       have HX:=jq (uM.out (λhc=>h2 (by rw[dQ,dQ,sX.out,aW.out];exact hc.2.1)));clear h2;go_wp2_with fail;go_roundw
       case rel=>exact⟨j+1,by omega,by go_num,jq (bi.out _),HX⟩
       case measure=>simp[intOf] <;> omega
      have eb1:(sy.toList == sn.toList)=true:=by simpa using h2
      by_cases h3:y.frm<x.til
      case neg=>
       have ed2:decide (y.frm<x.til)=false:=tQ h3;have HX:=jq (uM.out (λhc=>h3 hc.2.2.1));clear h3;go_wp2_with fail;go_roundw
       case rel=>exact⟨j+1,by omega,by go_num,jq (bi.out _),HX⟩
       case measure=>simp[intOf] <;> omega
      have ed2:decide (y.frm<x.til)=true:=uQ h3;by_cases h4:x.frm<y.til
      case neg=>
       have ed3:decide (x.frm<y.til)=false:=tQ h4;have HX:=jq (uM.out (λhc=>h4 hc.2.2.2));clear h4;go_wp2_with fail;go_roundw
       case rel=>exact⟨j+1,by omega,by go_num,jq (bi.out _),HX⟩
       case measure=>simp[intOf] <;> omega
      have ed3:decide (x.frm<y.til)=true:=uQ h4;have HX:Hid (r=false):=jq (zN.out ⟨h1,by rw[<-sX.out,<-aW.out,<-dQ,<-dQ];exact h2,h3,h4⟩);clear h1 h2 h3 h4;go_wp2_with fail;go_ret;exact⟨ae HX.out.symm,HAT.out _⟩
     ·have TE:Hid ((l.take (k+1)).Pairwise λc d=>¬ Np.ko c d):=jq (by
       rw[HT.out,List.pairwise_append];refine⟨od.out,by simp,λc hc d hd=>?_⟩;rw[List.mem_singleton] at hd;subst hd;obtain⟨t,ht,rfl⟩:=nQ.1 hc;rw[List.length_take] at ht;rw[List.getElem_take];exact HQ.out t _ (by omega) (aQ (by omega)))
      go_wp2_with fail;go_roundw
      case rel=>exact⟨k+1,by omega,by go_num,by omega,aIX Sl ca.out,Gp,TE⟩
      case measure=>simp[intOf] <;> omega
  ·have jS:Hid (l.take k=l):=jq (kQ (by rw[eR.out];omega));have zu:Hid (∀ c∈l,Np.CopyOk iR c):=jq (by have:=bG.out;rwa [jS.out] at this);have TF:Hid (l.Pairwise λc d=>¬ Np.ko c d):=jq (by have:=od.out;rwa [jS.out] at this);go_wp2_with fail;refine (Qs _ l (by rw[eR.out];omega) (λc hc=>?_) _ ((HD.out.keep l7 HB.out).more wE (by omega))).mono ?_
   ·have h1:=((jt.out c).1 (zu.out c hc)).2.2.right;unfold Np.eX at h1;simp only[Bool.and_eq_true] at h1;exact yQ (qY h1.1.1) (by omega)
   rintro e w13 ⟨v13,rfl,BE,AN⟩;obtain⟨A13,c13,rfl⟩:=cm.form BE;have Fq:=aIX HB AN;have IP:(Np.apexes l).length<=500:=by
    rw[<-Np.Mn]
    have:=Hh (l.map (·.zone.apex)) []
    rw[List.length_map,eR.out] at this;simp at this;omega
   obtain⟨m13,By⟩:=aJZ ((Np.apexes l).length);rw[By] at IP |-;have d13:decide ((m13:Int)<=500)=true:=aLQ;clear BE AN By;go_wp2_with fail;go_ret;exact⟨ae (by rw[<-HR.out];exact (Np.cu ⟨⟨⟨⟨Np.f8.1 sZ.out,Np.f8.1 zM.out⟩,Fr.out⟩,zu.out⟩,TF.out⟩).symm),Fq.out⟩
end
section
open Go.RowKit Go.Shelf
theorem aoQ(e:List Value)(h:Np.Hist)(hf:Np.xb h)(w:World)(hh:fM w w.heap.size e h) :
 Calls prog 143 #[.agg e.toArray] w λe w'=>((Np.VHist h/\∃ v',e = .returned (.tuple #[v',.int .i64 0])/\cm w.heap.size w' v' (Np.apexes h.copies))\/(¬ Np.VHist h/\e = .returned (.tuple #[.slice none 0 0,.int .i64 1])))/\Below w.heap.size w w':=by
 obtain⟨hv,cv,s,dv,dx,rfl,h1,h2,h3,h4,h5,h6⟩:=hh;obtain⟨hosts,copies,⟨name,ty,life,data⟩,hints,drift,stop⟩:=h;dsimp only at h1 h3 h4 h5 h6;subst h1;have H3:=jq h3;have H4:=jq h4;have H5:=jq h5;have H6:=jq h6;have ph:=jq hf;obtain⟨A1,c1,rfl,_,_⟩:=aj h3;obtain⟨A2,c2,rfl,_,_⟩:=aj h4;obtain⟨A3,c3,rfl,_,_⟩:=aj h5;obtain⟨A4,c4,rfl,_,_⟩:=aj h6;clear h3 h4 h5 h6 hf;obtain⟨r,hr⟩:=aJZ (Np.yes (Np.VHist ⟨hosts,copies,⟨s.data.toList,ty,life,data⟩,hints,drift,stop⟩));have pp:=jq hr;obtain⟨n1,bK⟩:=aJZ hosts.length;obtain⟨n2,bY⟩:=aJZ copies.length;obtain⟨n3,dF⟩:=aJZ data.length;obtain⟨n4,dY⟩:=aJZ hints.length;rw[bK] at H3 |-;rw[bY] at H4 |-;rw[dF] at H5 |-;rw[dY] at H6 |-;clear hr bK bY dF dY;obtain⟨X,hX⟩:=aJZ w.heap.size;have iK:=jq hX;obtain⟨W1,an⟩:=aJZ (w.alloc (.cells #[.slice A1 n1 c1,.slice A2 n2 c2,.string s,.int .i64 ty,.int .i64 life,.slice A3 n3 c3,.slice A4 n4 c4,.int .i64 drift,.int .i64 stop] 29));have aB:Below w.heap.size w W1:=by rw[<-an];exact (vQ _ _).alloc (bQ _) _
 have jF:W1.heap.size=w.heap.size+1:=by rw[<-an];simp
 have k0:W1.cell? ⟨X,0,none⟩=some (.slice A1 n1 c1):=by rw[<-an,<-hX];simp[go_sem]
 have k1:W1.cell? ⟨X,1,none⟩=some (.slice A2 n2 c2):=by rw[<-an,<-hX];simp[go_sem]
 have k2:W1.cell? ⟨X,2,none⟩=some (.string s):=by rw[<-an,<-hX];simp[go_sem]
 have k3:W1.cell? ⟨X,3,none⟩=some (.int .i64 ty):=by rw[<-an,<-hX];simp[go_sem]
 have k4:W1.cell? ⟨X,4,none⟩=some (.int .i64 life):=by rw[<-an,<-hX];simp[go_sem]
 have k5:W1.cell? ⟨X,5,none⟩=some (.slice A3 n3 c3):=by rw[<-an,<-hX];simp[go_sem]
 have k6:W1.cell? ⟨X,6,none⟩=some (.slice A4 n4 c4):=by rw[<-an,<-hX];simp[go_sem]
 have k7:W1.cell? ⟨X,7,none⟩=some (.int .i64 drift):=by rw[<-an,<-hX];simp[go_sem]
 have k8:W1.cell? ⟨X,8,none⟩=some (.int .i64 stop):=by rw[<-an,<-hX];simp[go_sem]
 rw[hX] at aB jF H3 H4 H5 H6 |-;have aO:=jq aB;clear aB;go_enter func143,ntmps143;go_wp2_with fail;refine (Qv _ hosts _ copies s h2 ty life _ data _ hints drift stop ph.out.1 ph.out.2 _ ((H3.out.keep nR aO.out).more wH (by omega)) ((H4.out.keep l7 aO.out).more wE (by omega)) ((H5.out.keep bD aO.out).more bP (by omega)) ((H6.out.keep kj aO.out).more qT (by omega))).mono ?_;rintro e w2 ⟨rfl,ac⟩;have aN:=ac.size;have m1:w2.cell? ⟨X,1,none⟩=some (.slice A2 n2 c2):=aIZ ac k1;have ah:=aIX aO ac;clear ac an k0 k1 k2 k3 k4 k5 k6 k7 k8 hX;rw[pp.out]
 cases r with
 | false=>
  have HN:Hid (¬ Np.VHist ⟨hosts,copies,⟨s.data.toList,ty,life,data⟩,hints,drift,stop⟩):=jq (λh=>by have:=Np.cu h;rw[pp.out] at this;cases this);go_wp2_with fail;go_ret2;exact⟨.inr ⟨HN.out,rfl⟩,ah.out⟩
 | true=>
  have HV:Hid (Np.VHist ⟨hosts,copies,⟨s.data.toList,ty,life,data⟩,hints,drift,stop⟩):=jq (Np.f8.1 pp.out);have qg:Hid (copies.length<=500):=jq ph.out.1;go_wp2_with fail;refine (Qs _ copies (by have:=qg.out;omega) (λc hc=>yQ (qY (Mo HV.out c.zone.apex (Np.wl.2 (List.mem_map.2 ⟨c,hc,rfl⟩)))) (by omega)) _ ((H4.out.keep l7 ah.out).more wE (by omega))).mono ?_;rintro e w3 ⟨v3,rfl,jl,ak⟩;have H4':=jq (And.intro (cm.weak jl (show X<=w2.heap.size by omega)) (ah.out.trans (ak.aKZ)));clear jl ak;go_wp2_with fail;go_ret2;exact⟨.inl ⟨HV.out,_,rfl,H4'.out.1⟩,H4'.out.2⟩
end
end Go.Proofs.YtfnopgdcaanaiaaGreatDoor
