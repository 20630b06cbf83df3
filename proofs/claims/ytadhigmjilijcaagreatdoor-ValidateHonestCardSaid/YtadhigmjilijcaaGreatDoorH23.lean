/- No condition. -/
import Derived.Test.YtadhigmjilijcaaGreatDoorH18
import Derived.Test.YtadhigmjilijcaaGreatDoorH19
import Derived.Test.YtadhigmjilijcaaGreatDoorH20
set_option linter.all false
set_option maxRecDepth 100000
set_option maxHeartbeats 8000000
namespace Go.Proofs.YtadhigmjilijcaaGreatDoor
open Go.Proofs.Tryz
section
open Go.RowKit Go.MapKept Go.Shelf
abbrev PT:=Np.Signed×List Np.Span×Value
section
variable {base:Nat} {M:Nat->Prop} {zn:ByteArray} {xs:List PT} {ov:Value} {w:World}
end
section
variable {S:Nat->Prop} {w2:World} {base:Nat} {M:Nat->Prop} {zn:ByteArray} {xs:List PT} {ov:Value} {w:World}
end
section
variable {S:Nat->Prop} {w2:World} {base:Nat} {M:Nat->Prop} {zn:ByteArray} {xs:List PT} {w:World}
end
end
section
open Go.RowKit Go.Shelf

end
section
open Go.RowKit Go.Shelf
attribute [local go_sem] Oper.semAt_some
end
section
open Go.RowKit Go.Shelf
attribute [local go_sem] Oper.semAt_some
theorem MB(n lo hi:Int)(w:World) :
 Calls prog 79 #[.int .i64 n,.int .i64 lo,.int .i64 hi] w (aCX w.heap.size w (.bool (decide (lo<=n)&&decide (n<=hi)))):=by
 obtain⟨r,hr⟩:=aaK (decide (lo<=n)&&decide (n<=hi));rw[hr];by_cases h1:lo<=n
 ·have d1:decide (lo<=n)=true:=uQ h1;by_cases h2:n<=hi
  ·have d2:decide (n<=hi)=true:=uQ h2;rw[d1,d2] at hr;subst hr;go_enter func79,ntmps79;go_wp2_with fail;go_ret;exact⟨rfl,vQ _ _⟩
  ·have d2:decide (n<=hi)=false:=tQ h2;rw[d1,d2] at hr;subst hr;go_enter func79,ntmps79;go_wp2_with fail;go_ret;exact⟨rfl,vQ _ _⟩
 ·have d1:decide (lo<=n)=false:=tQ h1;rw[d1] at hr;subst hr;go_enter func79,ntmps79;go_wp2_with fail;go_ret;exact⟨rfl,vQ _ _⟩
def Np.DX(f u:Int):Bool:=decide (0<=f)&&(decide (f<=u)&&decide (u<=20000000))
theorem bqK(f u:Int)(w:World) :
 Calls prog 213 #[.int .i64 f,.int .i64 u] w (aCX w.heap.size w (.bool (Np.DX f u))):=by
 obtain⟨r,hr⟩:=aaK (Np.DX f u);rw[hr];unfold Np.DX at hr;by_cases h1:0<=f
 ·have d1:decide (0<=f)=true:=uQ h1;by_cases h2:f<=u
  ·have d2:decide (f<=u)=true:=uQ h2;by_cases h3:u<=20000000
   ·have d3:decide (u<=20000000)=true:=uQ h3;rw[d1,d2,d3] at hr;subst hr;go_enter func213,ntmps213;go_wp2_with fail;go_ret;exact⟨rfl,vQ _ _⟩
   ·have d3:decide (u<=20000000)=false:=tQ h3;rw[d1,d2,d3] at hr;subst hr;go_enter func213,ntmps213;go_wp2_with fail;go_ret;exact⟨rfl,vQ _ _⟩
  ·have d2:decide (f<=u)=false:=tQ h2;rw[d1,d2] at hr;subst hr;go_enter func213,ntmps213;go_wp2_with fail;go_ret;exact⟨rfl,vQ _ _⟩
 ·have d1:decide (0<=f)=false:=tQ h1;rw[d1] at hr;subst hr;go_enter func213,ntmps213;go_wp2_with fail;go_ret;exact⟨rfl,vQ _ _⟩
theorem byQ(z:ByteArray)(hz:z.size<=140737488355328)(g:Np.Sig)(hg:z.data.toList=g.zone)(w:World) :
 Calls prog 148 #[.agg #[.string z,.int .i64 g.key,.int .i64 g.alg,.int .i64 g.frm,.int .i64 g.til,.int .u64 g.sum]] w λe w'=>e = .returned (.bool (Np.jN g))/\Below w.heap.size w w':=by
 have HG:=jq hg;obtain⟨X,hX⟩:=aaK w.heap.size;obtain⟨w1,ah⟩:=aaK (w.alloc (.cells #[.string z,.int .i64 g.key,.int .i64 g.alg,.int .i64 g.frm,.int .i64 g.til,.int .u64 g.sum] 56));have av:Below w.heap.size w w1:=by rw[<-ah];exact blAl
 have z1:w1.heap.size=X+1:=by rw[<-ah,<-hX];simp
 have HC:Hid (w1.heap[X]?=some (.cells [Value.string z,.int .i64 g.key,.int .i64 g.alg,.int .i64 g.frm,.int .i64 g.til,.int .u64 g.sum].toArray 56 (0,0))):=jq (by rw[<-ah,<-hX];exact heap_alloc_new _ _);have ay:=jq av;have c0:=af _ HC.out 0 _ rfl;clear av hg;go_enter func148,ntmps148;go_wp2_with fail;clear ah;go_wp2_with fail;clear c0;refine (vH z hz w1).mono ?_;rw[HG.out];obtain⟨b0,h0⟩:=aaK (Np.ai g.zone);rw[h0];have H0:=jq h0;clear h0;rintro e w2 ⟨rfl,hb⟩;have am:=aaZ ay hb;have dH:=jq ((hb.block X (by omega)).trans HC.out);have z2:X+1<=w2.heap.size:=by have:=hb.size;omega
 clear hb
 cases b0 with
 | false=>
  go_wp2_with fail;go_ret;exact⟨by unfold Np.jN;rw[H0.out];rfl,am.out⟩
 | true=>
 have c1:=af _ dH.out 1 _ rfl;go_wp2_with fail;clear c1;refine (MB g.key 1 1000000 w2).mono ?_;obtain⟨b1,h1⟩:=aaK (decide (1<=g.key)&&decide (g.key<=1000000));rw[h1];have H1:=jq h1;clear h1;rintro e w3 ⟨rfl,hb⟩;have aw:=aaZ am hb;have gj:=jq ((hb.block X (by omega)).trans dH.out);have z3:X+1<=w3.heap.size:=by have:=hb.size;omega
 clear hb
 cases b1 with
 | false=>
  go_wp2_with fail;go_ret;exact⟨by unfold Np.jN;rw[H0.out,H1.out];rfl,aw.out⟩
 | true=>
 have c2:=af _ gj.out 2 _ rfl;go_wp2_with fail;clear c2;refine (MB g.alg 1 3 w3).mono ?_;obtain⟨b2,h2⟩:=aaK (decide (1<=g.alg)&&decide (g.alg<=3));rw[h2];have H2:=jq h2;clear h2;rintro e w4 ⟨rfl,hb⟩;have aX:=aaZ aw hb;have AY:=jq ((hb.block X (by omega)).trans gj.out);clear hb
 cases b2 with
 | false=>
  go_wp2_with fail;go_ret;exact⟨by unfold Np.jN;rw[H0.out,H1.out,H2.out];rfl,aX.out⟩
 | true=>
 have c3:=af _ AY.out 3 _ rfl;have c4:=af _ AY.out 4 _ rfl;go_wp2_with fail;clear c3 c4;refine (bqK g.frm g.til w4).mono ?_;obtain⟨b3,h3⟩:=aaK (Np.DX g.frm g.til);rw[h3];have H3:=jq h3;clear h3;rintro e w5 ⟨rfl,hb⟩;have bx:=jq (aX.out.trans (hb.mono (by have:=aX.out.size;omega)));clear hb;have HR:Hid (Np.jN g=b3):=jq (by unfold Np.jN;rw[H0.out,H1.out,H2.out];have h:=H3.out;unfold Np.DX at h;rw[h];rfl);go_wp2_with fail;go_ret;exact⟨by rw[HR.out];rfl,bx.out⟩
theorem bAQ(x:Np.Signed)(s:ByteArray)(hs:s.data.toList=x.set.name)(dM:s.size<=140737488355328)(dv gv:Value)(w:World)(hd:SlR cm 3 w w.heap.size dv x.set.data)(hg:SlR en 6 w w.heap.size gv x.sigs) :
 Calls prog 80 #[.agg #[.string s,.int .i64 x.set.type,.int .i64 x.set.life,dv,gv]] w λe w'=>e = .returned (.bool (Np.gW x))/\Below w.heap.size w w':=by
 obtain⟨dA,dn,dc,rfl,jC,_,_⟩:=cE hd;obtain⟨gA,gn,gc,rfl,mO,_,Kw⟩:=cE hg;have Bh:=jq mO;have bU:=jq (And.intro hs dM);obtain⟨X,hX⟩:=aaK w.heap.size;obtain⟨w1,ah⟩:=aaK (w.alloc (.cells #[.string s,.int .i64 x.set.type,.int .i64 x.set.life,.slice dA dn dc,.slice gA gn gc] 44));have av:Below w.heap.size w w1:=by rw[<-ah];exact blAl
 have z1:w1.heap.size=X+1:=by rw[<-ah,<-hX];simp
 have HC:Hid (w1.heap[X]?=some (.cells [Value.string s,.int .i64 x.set.type,.int .i64 x.set.life,.slice dA dn dc,.slice gA gn gc].toArray 44 (0,0))):=jq (by rw[<-ah,<-hX];exact heap_alloc_new _ _);have ay:=jq av;have HD:=jq (hd.later bM bY av);have HG:=jq (hg.later dG el av);clear av hd hg mO hs dM jC;go_enter func80,ntmps80;go_wp2_with fail;clear ah;go_wp2_with fail;go_loopw [3] (λiv wr=>∃ k:Nat,k<=gn/\iv = .int .i64 k/\Hid (Below w1.heap.size w1 wr)/\Hid ((x.sigs.take k).all Np.jN=true)) (λiv _=>gn - (intOf iv).toNat)
 case atStart=>exact⟨0,jQ _,rfl,jq (vQ _ _),jq (by simp)⟩
 case round=>
  obtain⟨k,hk,rfl,dP,cu⟩:=hrel;obtain⟨ws,rfl⟩:=aaX wr;have zs:X+1<=ws.heap.size:=by have:=dP.out.size;omega
  have un:=jq ((dP.out.block X (by omega)).trans HC.out);have c4:=af _ un.out 4 _ rfl;by_cases ag:k<gn
  ·obtain⟨g,FY⟩:∃ y,x.sigs[k]?=some y:=⟨_,aQ (by rw[Bh.out];exact ag)⟩;obtain⟨b,o,c2,z,hA,cO,lp,gd,e0,e1,e2,e3,e4,e5⟩:=ua (HG.out.later dG el dP.out) FY;simp only[Value.slice.injEq] at hA;obtain⟨rfl,-,rfl⟩:=hA;have jU:Hid ((x.sigs.take (k+1)).all Np.jN=((x.sigs.take k).all Np.jN&&Np.jN g)):=jq (by
    obtain⟨hl,he⟩:=cQ.1 FY;rw[fQ hl,List.all_append,he];simp)
   have XX:=jq (gQ FY);have Jk:=jq (And.intro lp gd);have df:=kNN k;have dg:(k:Int)<(gn:Int):=by omega
   clear FY lp gd;go_wp2_with fail;clear c4 e0 e1 e2 e3 e4 e5;refine (byQ z Jk.out.2 g Jk.out.1 ws).mono ?_;obtain⟨bg,rP⟩:=aaK (Np.jN g);rw[rP];have AN:=jq rP;clear rP;rintro e w7 ⟨rfl,bF⟩;have cw:=jq (dP.out.trans (bF.mono dP.out.size));clear bF
   cases bg with
   | false=>
    have HF:Hid (Np.gW x=false):=jq (by
     unfold Np.gW
     have:x.sigs.all Np.jN=false:=by rw[List.all_eq_false];exact⟨g,XX.out,by rw[AN.out];decide⟩
     rw[this];simp)
    have nV:=jq (ay.out.trans (cw.out.mono ay.out.size));go_wp2_with fail;go_ret;exact⟨by rw[HF.out];rfl,nV.out⟩
   | true=>
    go_wp2_with fail;go_roundw
    case rel=>exact⟨k+1,by omega,by go_num,cw,jq (by rw[jU.out,cu.out,AN.out];rfl)⟩
    ·simp[intOf]<;>omega
  ·obtain rfl:k=gn:=by omega
   have vR:Hid (x.sigs.all Np.jN=true):=jq (by have h:=cu.out;rwa [kQ (by rw[Bh.out];exact bQ _)] at h);have c0:=af _ un.out 0 _ rfl;have c1:=af _ un.out 1 _ rfl;have c2:=af _ un.out 2 _ rfl;have c3:=af _ un.out 3 _ rfl;go_wp2_with fail;clear c0 c1 c2 c3 c4;refine (Ur s bU.out.2 x.set.type x.set.life (.slice dA dn dc) x.set.data ws (HD.out.later bM bY dP.out)).mono ?_;obtain⟨bv,eF⟩:=aaK (Np.bi ⟨s.data.toList,x.set.type,x.set.life,x.set.data⟩);rw[eF];have D9:Hid (Np.bi x.set=bv):=jq (by rw[<-eF,bU.out.1]);clear eF;rintro e w8 ⟨rfl,cA⟩;have yI:=jq ((cA.block X (by omega)).trans un.out);have nV:=jq (ay.out.trans ((dP.out.trans (cA.mono dP.out.size)).mono ay.out.size));have c4:=af _ yI.out 4 _ rfl;clear cA
   cases bv with
   | false=>
    go_wp2_with fail;go_ret;exact⟨by unfold Np.gW;rw[D9.out];simp,nV.out⟩
   | true=>
    by_cases h6:k<=6
    ·have d6:decide (k<=6)=true:=uQ h6;have d6i:decide ((k:Int)<=6)=true:=adQ;have JV:(k:Int)<=6:=by omega
     have HR:Hid (Np.gW x=true):=jq (by unfold Np.gW;rw[Bh.out,d6,D9.out,vR.out];rfl);go_wp2_with fail;go_ret;exact⟨by rw[HR.out];rfl,nV.out⟩
    ·have d6:decide (k<=6)=false:=tQ h6;have d6i:decide ((k:Int)<=6)=false:=acY;have JV:¬ (k:Int)<=6:=by omega
     have HR:Hid (Np.gW x=false):=jq (by unfold Np.gW;rw[Bh.out,d6];rfl);go_wp2_with fail;go_ret;exact⟨by rw[HR.out];rfl,nV.out⟩
theorem aiJ(a:Np.Ans)(v:Value)(cut:ByteArray)(hc:cut.data.toList=a.cut)(hcs:cut.size<=140737488355328)(w:World)(hv:SlR az 5 w w.heap.size v a.sets) :
 Calls prog 29 #[.agg #[.int .i64 a.kind,v,.string cut]] w λe w'=>e = .returned (.bool (Np.ib a))/\Below w.heap.size w w':=by
 obtain⟨A,N,C,rfl,hN,_,_⟩:=cE hv;obtain⟨kd,zE⟩:=aaK a.kind;rw[zE];have ip:=jq zE;have HN:=jq hN;have Hw:=jq (And.intro hc hcs);obtain⟨X,hX⟩:=aaK w.heap.size;obtain⟨w1,ah⟩:=aaK (w.alloc (.cells #[.int .i64 kd,.slice A N C,.string cut] 29));have av:Below w.heap.size w w1:=by rw[<-ah];exact blAl
 have z1:w1.heap.size=X+1:=by rw[<-ah,<-hX];simp
 have HC:Hid (w1.heap[X]?=some (.cells [Value.int .i64 kd,.slice A N C,.string cut].toArray 29 (0,0))):=jq (by rw[<-ah,<-hX];exact heap_alloc_new _ _);have ay:=jq av;have HV:=jq (hv.later ax aK av);have c0:=af _ HC.out 0 _ rfl;clear av hv hN hc hcs zE;go_enter func29,ntmps29;go_wp2_with fail;clear ah;go_wp2_with fail;clear c0;refine (MB kd 1 7 w1).mono ?_;obtain⟨b0,h0⟩:=aaK (decide (1<=kd)&&decide (kd<=7));rw[h0];have H0:=jq h0;clear h0;rintro e w2 ⟨rfl,hb⟩;have AL:=jq hb;have am:=aaZ ay hb;have dH:=jq ((hb.block X (by omega)).trans HC.out);have z2:X+1<=w2.heap.size:=by have:=hb.size;omega
 clear hb
 cases b0 with
 | false=>
  have HF:Hid (Np.ib a=false):=jq (by unfold Np.ib;rw[ip.out,H0.out];rfl);go_wp2_with fail;go_ret;exact⟨by rw[HF.out];rfl,am.out⟩
 | true=>
 have c0:=af _ dH.out 0 _ rfl;have c1:=af _ dH.out 1 _ rfl;have c2:=af _ dH.out 2 _ rfl;by_cases Q5:N<=40
 case neg=>
  have d1:(40:Int)<(N:Int):=by omega
  have d2:decide ((40:Int)<(N:Int))=true:=uQ d1;have d3:40<N:=by omega
  have d4:decide (40<N)=true:=uQ d3;have HF:Hid (Np.ib a=false):=jq (by unfold Np.ib;rw[HN.out,tQ Q5];simp);go_wp2_with fail;go_ret;exact⟨by rw[HF.out];rfl,am.out⟩
 have d1:¬ (40:Int)<(N:Int):=by omega
 have d2:decide ((40:Int)<(N:Int))=false:=tQ d1;have d3:¬ 40<N:=by omega
 have d4:decide (40<N)=false:=tQ d3;have D40:Hid (decide (a.sets.length<=40)=true):=jq (by rw[HN.out];exact uQ Q5);obtain⟨co,RP⟩:=aaK (if a.kind=4 then Np.ai a.cut else a.cut == []);have Ht:=jq RP;have dj:Hid (Np.ib a=(a.sets.all Np.gW&&co)):=jq (by unfold Np.ib;rw[Ht.out,ip.out,H0.out,D40.out];rfl);clear RP;by_cases h4:kd=4
 case' pos=>
  subst h4;have Zy:Hid (Np.ai cut.data.toList=co):=jq (by have h:=Ht.out;rw[QbQ ip.out] at h;rw[Hw.out.1,h]);go_wp2_with fail;refine (vH cut Hw.out.2 w2).mono ?_;rw[Zy.out];rintro e w3 ⟨rfl,hb⟩;have fy:=jq (AL.out.trans (hb.mono AL.out.size));have gj:=jq ((hb.block X (by omega)).trans dH.out);have z3:X+1<=w3.heap.size:=by have:=hb.size;omega
  clear hb c0 c1 c2;have c0:=af _ gj.out 0 _ rfl
 case' neg=>
  have k1:(kd == 4)=false:=by simpa using h4
  have k2:(kd != 4)=true:=by simpa using h4
  obtain⟨w3,bT⟩:=aaX w2;have fy:Hid (Below w1.heap.size w1 w3):=by rw[bT];exact AL
  have gj:Hid (w3.heap[X]?=some (.cells [Value.int .i64 kd,.slice A N C,.string cut].toArray 29 (0,0))):=by rw[bT];exact dH
  have z3:X+1<=w3.heap.size:=by rw[bT];exact z2
  rw[<-bT] at c0 c1 c2 |-;clear bT;have hce:(cut.toList == [])=co:=by
   have h:=Ht.out;rw[Qc (by rw[ip.out];exact h4)] at h;rw[dQ,Hw.out.1,h]
  clear h4
 all_goals
  have aw:=aaZ ay fy.out
  cases co with
  | false=>
   have HF:Hid (Np.ib a=false):=jq (by rw[dj.out];simp);go_wp2_with fail;go_ret;exact⟨by rw[HF.out];rfl,aw.out⟩
  | true=>
   go_wp2_with fail;clear c0
   try clear c1 c2
   try clear hce
   go_loopw [3] (λiv wr=>∃ k:Nat,k<=N/\iv = .int .i64 k/\Hid (Below w3.heap.size w3 wr)/\Hid ((a.sets.take k).all Np.gW=true)) (λiv _=>N - (intOf iv).toNat)
   case atStart=>exact⟨0,jQ _,rfl,jq (vQ _ _),jq (by simp)⟩
   case round=>
    obtain⟨k,hk,rfl,dP,cu⟩:=hrel;obtain⟨ws,rfl⟩:=aaX wr;have zs:X+1<=ws.heap.size:=by have:=dP.out.size;omega
    have Wb:=jq (fy.out.trans (dP.out.mono fy.out.size));have un:=jq ((dP.out.block X (by omega)).trans gj.out);have c1:=af _ un.out 1 _ rfl;by_cases ag:k<N
    ·obtain⟨x,fl⟩:∃ y,a.sets[k]?=some y:=⟨_,aQ (by rw[HN.out];exact ag)⟩;obtain⟨b,o,c9,s,dv,sv,hA,cO,_,aP,dM,aV,aZ,e0,e1,e2,e3,e4⟩:=dN (HV.out.later ax aK Wb.out) fl;simp only[Value.slice.injEq] at hA;obtain⟨rfl,-,rfl⟩:=hA;obtain⟨dA,dn,dc,rfl,_,_,_⟩:=cE aV;obtain⟨gA,gn,gc,rfl,_,_,_⟩:=cE aZ;have iX:=jq aV;have pV:=jq aZ;have bU:=jq (And.intro aP dM);have jU:Hid ((a.sets.take (k+1)).all Np.gW=((a.sets.take k).all Np.gW&&Np.gW x)):=jq (by
      obtain⟨hl,he⟩:=cQ.1 fl;rw[fQ hl,List.all_append,he];simp)
     have Bw:=jq (gQ fl);have df:=kNN k;have dg:(k:Int)<(N:Int):=by omega
     clear fl aP dM aV aZ;go_wp2_with fail;clear c1 e0 e1 e2 e3 e4;refine (bAQ x s bU.out.1 bU.out.2 (.slice dA dn dc) (.slice gA gn gc) ws iX.out pV.out).mono ?_;obtain⟨bg,rP⟩:=aaK (Np.gW x);rw[rP];have AN:=jq rP;clear rP;rintro e w7 ⟨rfl,bF⟩;have cw:=jq (dP.out.trans (bF.mono dP.out.size));clear bF
     cases bg with
     | false=>
      have HF:Hid (Np.ib a=false):=jq (by
       have:a.sets.all Np.gW=false:=by rw[List.all_eq_false];exact⟨x,Bw.out,by rw[AN.out];decide⟩
       rw[dj.out,this];rfl)
      have nV:=jq (aw.out.trans (cw.out.mono aw.out.size));go_wp2_with fail;go_ret;exact⟨by rw[HF.out];rfl,nV.out⟩
     | true=>
      go_wp2_with fail;go_roundw
      case rel=>exact⟨k+1,by omega,by go_num,cw,jq (by rw[jU.out,cu.out,AN.out];rfl)⟩
      ·simp[intOf]<;>omega
    ·obtain rfl:k=N:=by omega
     have HT:Hid (Np.ib a=true):=jq (by
      have h:=cu.out;rw[kQ (by rw[HN.out];exact bQ _)] at h;rw[dj.out,h];rfl)
     have nV:=jq (aw.out.trans (dP.out.mono aw.out.size));go_wp2_with fail;go_ret;exact⟨by rw[HT.out];rfl,nV.out⟩
end
end Go.Proofs.YtadhigmjilijcaaGreatDoor
