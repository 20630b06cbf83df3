/- No condition. -/
import Derived.Test.YtadhigmjilijcaaGreatDoorH06
import Derived.Test.YtadhigmjilijcaaGreatDoorH09
set_option linter.all false
set_option maxRecDepth 100000
set_option maxHeartbeats 8000000
namespace Go.Proofs.YtadhigmjilijcaaGreatDoor
open Go.Proofs.Tryz
section
open Go.RowKit
theorem bpK(a:ByteArray)(v:Value)(l:List Np.Sig)(w:World)(h:SlR en 6 w w.heap.size v l) :
 Calls prog 137 #[v,.string a] w (aCX w.heap.size w (.bool (Np.yes (Np.gB a.data.toList l)))):=by
 obtain⟨r,hr⟩:=aaK (Np.yes (Np.gB a.data.toList l));rw[hr];have HR:=jq hr;have H:=jq h;obtain⟨A,c,rfl,aR,cP⟩:=ba h;clear h hr;by_cases h6:l.length<=6
 ·have H6:=jq h6;go_enter func137,ntmps137;go_wp2_with fail;go_loopw [5] (λi wr=>∃ k:Nat,k<=l.length/\i = .int .i64 k/\Hid (Below w.heap.size w wr)/\Hid (∀ j g,j<k->l[j]?=some g->Np.SigOk a.data.toList l j g)) (λi _=>l.length - (intOf i).toNat)
  case atStart=>exact⟨0,jQ _,rfl,jq (vQ _ _),jq (λj g hj=>by omega)⟩
  case round=>
   obtain⟨k,hk,rfl,HB,HA⟩:=hrel;by_cases ag:k<l.length
   ·have er:=H.out.keep dG HB.out;have aF:=aQ ag;obtain⟨b,o,c',s,hA,cX,hs,aB,e0,e1,e2,e3,e4,e5⟩:=ua er aF
    cases hA
    have xZ:=aQ (show 0<l.length by omega);obtain⟨b',o',c'',s',hA,_,_,_,_,z1,z2,z3,z4,_⟩:=ua er xZ;simp only[Value.slice.injEq,Option.some.injEq,Addr.mk.injEq,and_true,true_and] at hA;obtain⟨⟨rfl,rfl⟩,-⟩:=hA;simp only[Nat.zero_mul,Nat.add_zero] at z3 z4;have HN:Hid (∀ h:Np.SigOk a.data.toList l k l[k],∀ j g,j<k+1->l[j]?=some g->Np.SigOk a.data.toList l j g):=jq (λh=>UO aF HA.out h);have HF:Hid (¬ Np.SigOk a.data.toList l k l[k]->r=false):=jq (λh=>HR.out ▸ Ts aF h);have HZ:=jq xZ;have Ih:=jq aF;have HS:=jq hs;have nA:=HB.out.size;have xn:b<wr.heap.size:=by omega
    have cu:Hid (∀ o n,Below w.heap.size w ((wr.alloc o).drewN n)):=jq (λo n=>below_drewN (HB.out.alloc HB.out.size _) _);have pK:Hid (∀ o,Below w.heap.size w (wr.alloc o)):=jq (λo=>(HB.out.alloc HB.out.size _));have df:=kNN k;have dg:(k:Int)<(l.length:Int):=by omega
    have bG:(0:Int)<(l.length:Int):=by omega
    have IK:Hid (∀ m,k=m+1->∃ y,l[m]?=some y/\wr.cell? ⟨b,o+m * 6+1,none⟩=some (.int .i64 y.key)):=jq (λm hm=>by
     obtain⟨b2,o2,c2,s2,hA,_,_,_,_,y1,_⟩:=ua er (aQ (show m<l.length by omega));simp only[Value.slice.injEq,Option.some.injEq,Addr.mk.injEq,and_true,true_and] at hA;obtain⟨⟨rfl,rfl⟩,-⟩:=hA;exact⟨_,aQ (by omega),y1⟩)
    generalize l[k]=x at *;generalize l[0]=x0 at *;clear er hs aF xZ z1 z2;by_cases ik:k=0
    ·have ki:decide ((0:Int)<(k:Int))=false:=by simp;omega
     have iP:decide (0<k)=false:=by simp;omega
     have xw:(!s.toList == a.toList)=true\/(!s.toList == a.toList)=false/\(decide (x.key<1)=true\/decide (x.key<1)=false/\(decide (1000000<x.key)=true\/decide (1000000<x.key)=false/\(decide (x.alg<1)=true\/decide (x.alg<1)=false/\(decide (3<x.alg)=true\/decide (3<x.alg)=false/\((x.frm != x0.frm)=true\/(x.frm != x0.frm)=false/\((x.til != x0.til)=true\/(x.til != x0.til)=false/\(decide (x.frm<0)=true\/decide (x.frm<0)=false/\(decide (x.til<x.frm)=true\/decide (x.til<x.frm)=false/\(decide (20000000<x.til)=true\/decide (20000000<x.til)=false))))))))):=by
      simp only[bne_iff_ne,bne_eq_false_iff_eq,Qa,decide_eq_false_iff_not];by_cases q:s.toList=a.toList
      ·simp[q];omega
      ·exact .inl (by simpa using q)
     have OC:Hid (x0=x):=jq (by
      have h1:=HZ.out;rw[<-ik,Ih.out] at h1;exact (Option.some.inj h1).symm)
     clear ik;rcases xw with d1 | ⟨d1,d2 | ⟨d2,d3 | ⟨d3,d4 | ⟨d4,d5 | ⟨d5,d6 | ⟨d6,d7 | ⟨d7,d8 | ⟨d8,d9 | ⟨d9,d10 | d10⟩⟩⟩⟩⟩⟩⟩⟩⟩
     rotate_right
     ·have dj:Hid (Np.SigOk a.data.toList l k x):=jq (by
       have e1:s.toList=a.toList:=by simpa using d1
       rw[dQ,dQ] at e1;simp only[bne_eq_false_iff_eq,decide_eq_false_iff_not] at d2 d3 d4 d5 d6 d7 d8 d9 d10;refine⟨by rw[<-HS.out,e1],by omega,by omega,by omega,λq hq=>?_,λp _ h0=>absurd h0 (by simpa using iP)⟩;rw[HZ.out] at hq;cases hq;exact⟨d6,d7⟩)
      go_wp2_with fail;go_quiet (fail);obtain⟨w2,ar⟩:=aaK ((wr.alloc (.cells #[.string s,.int .i64 x.key,.int .i64 x.alg,.int .i64 x.frm,.int .i64 x.til,.int .u64 x.sum] 56)).drewN nq);have p3:w2.cell? ⟨wr.heap.size,3,none⟩=some (.int .i64 x.frm):=by rw[<-ar];simp[go_sem]
      have p4:w2.cell? ⟨wr.heap.size,4,none⟩=some (.int .i64 x.til):=by rw[<-ar];simp[go_sem]
      have dx:Hid (Below w.heap.size w w2):=jq (by rw[<-ar];exact cu.out _ _);rw[ar];clear ar;go_wp2_with fail;go_roundw
      case rel=>exact⟨k+1,by omega,by go_num,jq dx.out,jq (HN.out dj.out)⟩
      ·simp[intOf]<;>omega
     all_goals
      go_wp2_with fail;go_quiet (fail);obtain⟨w2,ar⟩:=aaK ((wr.alloc (.cells #[.string s,.int .i64 x.key,.int .i64 x.alg,.int .i64 x.frm,.int .i64 x.til,.int .u64 x.sum] 56)).drewN nq);have p3:w2.cell? ⟨wr.heap.size,3,none⟩=some (.int .i64 x.frm):=by rw[<-ar];simp[go_sem]
      have p4:w2.cell? ⟨wr.heap.size,4,none⟩=some (.int .i64 x.til):=by rw[<-ar];simp[go_sem]
      have dx:Hid (Below w.heap.size w w2):=jq (by rw[<-ar];exact cu.out _ _);rw[ar];clear ar;go_wp2_with fail;go_ret;refine⟨aj (HF.out ?_).symm,dx.out⟩;intro fe;obtain⟨k1,k2,k3,k4,k5,k6⟩:=fe;replace k5:=k5 _ HZ.out
      first
       | (rw[dQ,dQ,HS.out,k1] at d1;simp at d1;done)
       | (simp only[bne_iff_ne,bne_eq_false_iff_eq,Qa,decide_eq_false_iff_not] at *;omega)
    ·obtain⟨m,mR⟩:∃ m,k=m+1:=⟨k - 1,by omega⟩;obtain⟨y,hy,y1⟩:=IK.out m mR;have HY:=jq hy;have Iw:=jq mR;have ki:decide ((0:Int)<(k:Int))=true:=by simp;omega
     have iP:decide (0<k)=true:=by simp;omega
     have ah:IntKind.i64.wrap ((k:Int) - 1)=(m:Int):=by rw[IntWalk.i64_in _ (by omega)];omega
     have Gl:(k:Int) - 1=(m:Int):=by omega
     have iO:(0:Int)<=(m:Int):=by omega
     have mP:(m:Int)<(l.length:Int):=by omega
     clear hy ik mR;have xw:(!s.toList == a.toList)=true\/(!s.toList == a.toList)=false/\(decide (x.key<1)=true\/decide (x.key<1)=false/\(decide (1000000<x.key)=true\/decide (1000000<x.key)=false/\(decide (x.alg<1)=true\/decide (x.alg<1)=false/\(decide (3<x.alg)=true\/decide (3<x.alg)=false/\((x.frm != x0.frm)=true\/(x.frm != x0.frm)=false/\((x.til != x0.til)=true\/(x.til != x0.til)=false/\(decide (x.key<=y.key)=true\/decide (x.key<=y.key)=false/\(decide (x.frm<0)=true\/decide (x.frm<0)=false/\(decide (x.til<x.frm)=true\/decide (x.til<x.frm)=false/\(decide (20000000<x.til)=true\/decide (20000000<x.til)=false)))))))))):=by
      simp only[bne_iff_ne,bne_eq_false_iff_eq,Qa,decide_eq_false_iff_not];by_cases q:s.toList=a.toList
      ·simp[q];omega
      ·exact .inl (by simpa using q)
     rcases xw with d1 | ⟨d1,d2 | ⟨d2,d3 | ⟨d3,d4 | ⟨d4,d5 | ⟨d5,d6 | ⟨d6,d7 | ⟨d7,d8 | ⟨d8,d9 | ⟨d9,d10 | ⟨d10,d11 | d11⟩⟩⟩⟩⟩⟩⟩⟩⟩⟩
     rotate_right
     ·have dj:Hid (Np.SigOk a.data.toList l k x):=jq (by
       have e1:s.toList=a.toList:=by simpa using d1
       rw[dQ,dQ] at e1;simp only[bne_eq_false_iff_eq,decide_eq_false_iff_not] at d2 d3 d4 d5 d6 d7 d8 d9 d10 d11;refine⟨by rw[<-HS.out,e1],by omega,by omega,by omega,λq hq=>?_,λp hp h0=>?_⟩
       ·rw[HZ.out] at hq;cases hq;exact⟨d6,d7⟩
       ·rw[Iw.out,show m+1 - 1=m by omega,HY.out] at hp;cases hp;omega)
      go_wp2_with fail;go_quiet (fail);obtain⟨w2,ar⟩:=aaK ((wr.alloc (.cells #[.string s,.int .i64 x.key,.int .i64 x.alg,.int .i64 x.frm,.int .i64 x.til,.int .u64 x.sum] 56)).drewN nq);have p3:w2.cell? ⟨wr.heap.size,3,none⟩=some (.int .i64 x.frm):=by rw[<-ar];simp[go_sem]
      have p4:w2.cell? ⟨wr.heap.size,4,none⟩=some (.int .i64 x.til):=by rw[<-ar];simp[go_sem]
      have dx:Hid (Below w.heap.size w w2):=jq (by rw[<-ar];exact cu.out _ _);rw[ar];clear ar;go_wp2_with fail;go_roundw
      case rel=>exact⟨k+1,by omega,by go_num,jq dx.out,jq (HN.out dj.out)⟩
      ·simp[intOf]<;>omega
     all_goals
      go_wp2_with fail;go_quiet (fail);obtain⟨w2,ar⟩:=aaK ((wr.alloc (.cells #[.string s,.int .i64 x.key,.int .i64 x.alg,.int .i64 x.frm,.int .i64 x.til,.int .u64 x.sum] 56)).drewN nq);have p3:w2.cell? ⟨wr.heap.size,3,none⟩=some (.int .i64 x.frm):=by rw[<-ar];simp[go_sem]
      have p4:w2.cell? ⟨wr.heap.size,4,none⟩=some (.int .i64 x.til):=by rw[<-ar];simp[go_sem]
      have dx:Hid (Below w.heap.size w w2):=jq (by rw[<-ar];exact cu.out _ _);rw[ar];clear ar;go_wp2_with fail;go_ret;refine⟨aj (HF.out ?_).symm,dx.out⟩;intro fe;obtain⟨k1,k2,k3,k4,k5,k6⟩:=fe;replace k6:=k6 y (by rw[Iw.out];exact HY.out) (by have:=Iw.out;omega);replace k5:=k5 _ HZ.out
      first
       | (rw[dQ,dQ,HS.out,k1] at d1;simp at d1;done)
       | (simp only[bne_iff_ne,bne_eq_false_iff_eq,Qa,decide_eq_false_iff_not] at *;omega)
   ·go_wp2_with fail;go_ret;refine⟨aj ?_,HB.out⟩;rw[<-HR.out];exact (Np.gY ⟨H6.out,λj g hg=>HA.out j g (by have:=(cQ.1 hg).1;omega) hg⟩).symm
 ·have h6':6<l.length:=by omega
  have HF:Hid (r=false):=jq (by rw[<-HR.out];exact Np.eX λhf=>h6 hf.1);clear h6;go_enter func137,ntmps137;go_wp2_with fail;go_ret;exact⟨aj HF.out.symm,vQ _ _⟩
theorem wP.fresh(b:Nat)(r:Option Nat)(W:World)(T:TypeId)(ns:List Int)(hb:b<W.heap.size)(hr:∀ k,r=some k->k<W.heap.size):wP b r (W.alloc (.cells (ns.map (Value.int .i64)).toArray T)) (.slice (some ⟨W.heap.size,0,none⟩) ns.length ns.length) ns:=by
 refine⟨_,_,rfl,bQ _,λi x hx=>⟨W.heap.size,0,rfl,by simp,by omega,λe=>by have:=hr _ e;omega,?_⟩⟩;rw[World.cell?_alloc_new];simp[hx]
structure KeyS(s:Np.Signed):Prop where
 name:s.set.name.length<=1000
 type:0<=s.set.type/\s.set.type<=1000000000
 life:0<=s.set.life/\s.set.life<=1000000000
 few:s.set.data.length<=100
 data:∀ d∈s.set.data,d.text.length<=1000/\(0<=d.n/\d.n<=1000000000)/\0<=d.m/\d.m<=1000000000
 fewS:s.sigs.length<=100
 sigs:∀ g∈s.sigs,g.zone.length<=1000/\(0<=g.key/\g.key<=1000000000)/\(0<=g.alg/\g.alg<=1000000000)/\(0<=g.frm/\g.frm<=1000000000)/\(0<=g.til/\g.til<=1000000000)/\0<=g.sum/\g.sum<18446744073709551616
end
end Go.Proofs.YtadhigmjilijcaaGreatDoor
