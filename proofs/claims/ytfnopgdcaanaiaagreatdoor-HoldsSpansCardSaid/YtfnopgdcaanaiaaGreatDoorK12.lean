/- Parts of the proof. No condition. -/
import Derived.Test.YtfnopgdcaanaiaaGreatDoorK07
set_option linter.all false
set_option maxRecDepth 100000
set_option maxHeartbeats 8000000
namespace Go.Proofs.YtfnopgdcaanaiaaGreatDoor
open Go.Proofs.Tryz
section
open Go.RowKit
theorem arK(a:ByteArray)(v:Value)(l:List Np.Sig)(w:World)(h:SlR dm 6 w w.heap.size v l) :
 Calls prog 151 #[v,.string a] w λe w'=>e = .returned (.bool (Np.yes (Np.fT a.data.toList l)))/\Below w.heap.size w w':=by
 obtain⟨r,hr⟩:∃ r,Np.yes (Np.fT a.data.toList l)=r:=⟨_,rfl⟩;rw[hr];have HR:=jq hr;have H:=jq h;obtain⟨A,c,rfl,bD,bL⟩:=al h;clear h hr;by_cases h6:l.length<=6
 ·have H6:=jq h6;go_enter func151,ntmps151;go_wp2_with fail;go_loopw [5] (λi wr=>∃ k:Nat,k<=l.length/\i = .int .i64 k/\Hid (Below w.heap.size w wr)/\Hid (∀ j g,j<k->l[j]?=some g->Np.SigOk a.data.toList l j g)) (λi _=>l.length - (intOf i).toNat)
  case atStart=>exact⟨0,jQ _,rfl,jq (vQ _ _),jq (λj g hj=>by omega)⟩
  case round=>
   obtain⟨k,hk,rfl,HB,HA⟩:=hrel;by_cases aa:k<l.length
   ·have da:=H.out.keep dH HB.out;have ab:=aQ aa;obtain⟨b,o,c',s,hA,bU,hs,ap,e0,e1,e2,e3,e4,e5⟩:=om da ab
    cases hA
    have wE:=aQ (show 0<l.length by omega);obtain⟨b',o',c'',s',hA,_,_,_,_,z1,z2,z3,z4,_⟩:=om da wE;simp only[Value.slice.injEq,Option.some.injEq,Addr.mk.injEq,and_true,true_and] at hA;obtain⟨⟨rfl,rfl⟩,-⟩:=hA;simp only[Nat.zero_mul,Nat.add_zero] at z3 z4;have HN:Hid (∀ h:Np.SigOk a.data.toList l k l[k],∀ j g,j<k+1->l[j]?=some g->Np.SigOk a.data.toList l j g):=jq (λh=>Ra ab HA.out h);have HF:Hid (¬ Np.SigOk a.data.toList l k l[k]->r=false):=jq (λh=>HR.out ▸ Po ab h);have HZ:=jq wE;have sJ:=jq ab;have HS:=jq hs;have kF:=HB.out.size;have yi:b<wr.heap.size:=by omega
    have bg:Hid (∀ o n,Below w.heap.size w ((wr.alloc o).drewN n)):=jq (λo n=>below_drewN (HB.out.alloc HB.out.size _) _);have oz:Hid (∀ o,Below w.heap.size w (wr.alloc o)):=jq (λo=>(HB.out.alloc HB.out.size _));have bX:(0:Int)<=(k:Int):=by omega
    have bW:(k:Int)<(l.length:Int):=by omega
    have bh:(0:Int)<(l.length:Int):=by omega
    have GN:Hid (∀ m,k=m+1->∃ y,l[m]?=some y/\wr.cell? ⟨b,o+m * 6+1,none⟩=some (.int .i64 y.key)):=jq (λm hm=>by
     obtain⟨b2,o2,c2,s2,hA,_,_,_,_,y1,_⟩:=om da (aQ (show m<l.length by omega));simp only[Value.slice.injEq,Option.some.injEq,Addr.mk.injEq,and_true,true_and] at hA;obtain⟨⟨rfl,rfl⟩,-⟩:=hA;exact⟨_,aQ (by omega),y1⟩)
    generalize l[k]=x at *;generalize l[0]=x0 at *;clear da hs ab wE z1 z2;by_cases iC:k=0
    ·have iU:decide ((0:Int)<(k:Int))=false:=by simp;omega
     have ie:decide (0<k)=false:=by simp;omega
     have rt:(!s.toList == a.toList)=true\/(!s.toList == a.toList)=false/\(decide (x.key<1)=true\/decide (x.key<1)=false/\(decide (1000000<x.key)=true\/decide (1000000<x.key)=false/\(decide (x.alg<1)=true\/decide (x.alg<1)=false/\(decide (3<x.alg)=true\/decide (3<x.alg)=false/\((x.frm != x0.frm)=true\/(x.frm != x0.frm)=false/\((x.til != x0.til)=true\/(x.til != x0.til)=false/\(decide (x.frm<0)=true\/decide (x.frm<0)=false/\(decide (x.til<x.frm)=true\/decide (x.til<x.frm)=false/\(decide (20000000<x.til)=true\/decide (20000000<x.til)=false))))))))):=by
      simp only[bne_iff_ne,bne_eq_false_iff_eq,Qa,decide_eq_false_iff_not];by_cases q:s.toList=a.toList
      ·simp[q];omega
      ·exact .inl (by simpa using q)
     have HX0:Hid (x0=x):=jq (by
      have h1:=HZ.out;rw[<-iC,sJ.out] at h1;exact (Option.some.inj h1).symm)
     clear iC;rcases rt with d1 | ⟨d1,d2 | ⟨d2,d3 | ⟨d3,d4 | ⟨d4,d5 | ⟨d5,d6 | ⟨d6,d7 | ⟨d7,d8 | ⟨d8,d9 | ⟨d9,d10 | d10⟩⟩⟩⟩⟩⟩⟩⟩⟩
     rotate_right
     ·have bI:Hid (Np.SigOk a.data.toList l k x):=jq (by
       have e1:s.toList=a.toList:=by simpa using d1
       rw[dQ,dQ] at e1;simp only[bne_eq_false_iff_eq,decide_eq_false_iff_not] at d2 d3 d4 d5 d6 d7 d8 d9 d10;refine⟨by rw[<-HS.out,e1],by omega,by omega,by omega,λq hq=>?_,λp _ h0=>absurd h0 (by simpa using ie)⟩;rw[HZ.out] at hq;cases hq;exact⟨d6,d7⟩)
      go_wp2_with fail;go_quiet (fail);obtain⟨w2,ae⟩:∃ w2,(wr.alloc (.cells #[.string s,.int .i64 x.key,.int .i64 x.alg,.int .i64 x.frm,.int .i64 x.til,.int .u64 x.sum] 50)).drewN nq=w2:=⟨_,rfl⟩;have p3:w2.cell? ⟨wr.heap.size,3,none⟩=some (.int .i64 x.frm):=by rw[<-ae];simp[go_sem]
      have p4:w2.cell? ⟨wr.heap.size,4,none⟩=some (.int .i64 x.til):=by rw[<-ae];simp[go_sem]
      have er:Hid (Below w.heap.size w w2):=jq (by rw[<-ae];exact bg.out _ _);rw[ae];clear ae;go_wp2_with fail;go_roundw
      case rel=>exact⟨k+1,by omega,by go_num,jq er.out,jq (HN.out bI.out)⟩
      case measure=>simp[intOf] <;> omega
     all_goals
      go_wp2_with fail;go_quiet (fail);obtain⟨w2,ae⟩:∃ w2,(wr.alloc (.cells #[.string s,.int .i64 x.key,.int .i64 x.alg,.int .i64 x.frm,.int .i64 x.til,.int .u64 x.sum] 50)).drewN nq=w2:=⟨_,rfl⟩;have p3:w2.cell? ⟨wr.heap.size,3,none⟩=some (.int .i64 x.frm):=by rw[<-ae];simp[go_sem]
      have p4:w2.cell? ⟨wr.heap.size,4,none⟩=some (.int .i64 x.til):=by rw[<-ae];simp[go_sem]
      have er:Hid (Below w.heap.size w w2):=jq (by rw[<-ae];exact bg.out _ _);rw[ae];clear ae;go_wp2_with fail;go_ret;refine⟨ag (HF.out ?_).symm,er.out⟩;intro mV;obtain⟨k1,k2,k3,k4,k5,k6⟩:=mV;replace k5:=k5 _ HZ.out
      first
       | (rw[dQ,dQ,HS.out,k1] at d1;simp at d1;done)
       | (simp only[bne_iff_ne,bne_eq_false_iff_eq,Qa,decide_eq_false_iff_not] at *;omega)
    ·obtain⟨m,l9⟩:∃ m,k=m+1:=⟨k - 1,by omega⟩;obtain⟨y,hy,y1⟩:=GN.out m l9;have HY:=jq hy;have Gn:=jq l9;have iU:decide ((0:Int)<(k:Int))=true:=by simp;omega
     have ie:decide (0<k)=true:=by simp;omega
     have aj:IntKind.i64.wrap ((k:Int) - 1)=(m:Int):=by rw[IntWalk.i64_in _ (by omega)];omega
     have ED:(k:Int) - 1=(m:Int):=by omega
     have nT:(0:Int)<=(m:Int):=by omega
     have rB:(m:Int)<(l.length:Int):=by omega
     clear hy iC l9;have rt:(!s.toList == a.toList)=true\/(!s.toList == a.toList)=false/\(decide (x.key<1)=true\/decide (x.key<1)=false/\(decide (1000000<x.key)=true\/decide (1000000<x.key)=false/\(decide (x.alg<1)=true\/decide (x.alg<1)=false/\(decide (3<x.alg)=true\/decide (3<x.alg)=false/\((x.frm != x0.frm)=true\/(x.frm != x0.frm)=false/\((x.til != x0.til)=true\/(x.til != x0.til)=false/\(decide (x.key<=y.key)=true\/decide (x.key<=y.key)=false/\(decide (x.frm<0)=true\/decide (x.frm<0)=false/\(decide (x.til<x.frm)=true\/decide (x.til<x.frm)=false/\(decide (20000000<x.til)=true\/decide (20000000<x.til)=false)))))))))):=by
      simp only[bne_iff_ne,bne_eq_false_iff_eq,Qa,decide_eq_false_iff_not];by_cases q:s.toList=a.toList
      ·simp[q];omega
      ·exact .inl (by simpa using q)
     rcases rt with d1 | ⟨d1,d2 | ⟨d2,d3 | ⟨d3,d4 | ⟨d4,d5 | ⟨d5,d6 | ⟨d6,d7 | ⟨d7,d8 | ⟨d8,d9 | ⟨d9,d10 | ⟨d10,d11 | d11⟩⟩⟩⟩⟩⟩⟩⟩⟩⟩
     rotate_right
     ·have bI:Hid (Np.SigOk a.data.toList l k x):=jq (by
       have e1:s.toList=a.toList:=by simpa using d1
       rw[dQ,dQ] at e1;simp only[bne_eq_false_iff_eq,decide_eq_false_iff_not] at d2 d3 d4 d5 d6 d7 d8 d9 d10 d11;refine⟨by rw[<-HS.out,e1],by omega,by omega,by omega,λq hq=>?_,λp hp h0=>?_⟩
       ·rw[HZ.out] at hq;cases hq;exact⟨d6,d7⟩
       ·rw[Gn.out,show m+1 - 1=m by omega,HY.out] at hp;cases hp;omega)
      go_wp2_with fail;go_quiet (fail);obtain⟨w2,ae⟩:∃ w2,(wr.alloc (.cells #[.string s,.int .i64 x.key,.int .i64 x.alg,.int .i64 x.frm,.int .i64 x.til,.int .u64 x.sum] 50)).drewN nq=w2:=⟨_,rfl⟩;have p3:w2.cell? ⟨wr.heap.size,3,none⟩=some (.int .i64 x.frm):=by rw[<-ae];simp[go_sem]
      have p4:w2.cell? ⟨wr.heap.size,4,none⟩=some (.int .i64 x.til):=by rw[<-ae];simp[go_sem]
      have er:Hid (Below w.heap.size w w2):=jq (by rw[<-ae];exact bg.out _ _);rw[ae];clear ae;go_wp2_with fail;go_roundw
      case rel=>exact⟨k+1,by omega,by go_num,jq er.out,jq (HN.out bI.out)⟩
      case measure=>simp[intOf] <;> omega
     all_goals
      go_wp2_with fail;go_quiet (fail);obtain⟨w2,ae⟩:∃ w2,(wr.alloc (.cells #[.string s,.int .i64 x.key,.int .i64 x.alg,.int .i64 x.frm,.int .i64 x.til,.int .u64 x.sum] 50)).drewN nq=w2:=⟨_,rfl⟩;have p3:w2.cell? ⟨wr.heap.size,3,none⟩=some (.int .i64 x.frm):=by rw[<-ae];simp[go_sem]
      have p4:w2.cell? ⟨wr.heap.size,4,none⟩=some (.int .i64 x.til):=by rw[<-ae];simp[go_sem]
      have er:Hid (Below w.heap.size w w2):=jq (by rw[<-ae];exact bg.out _ _);rw[ae];clear ae;go_wp2_with fail;go_ret;refine⟨ag (HF.out ?_).symm,er.out⟩;intro mV;obtain⟨k1,k2,k3,k4,k5,k6⟩:=mV;replace k6:=k6 y (by rw[Gn.out];exact HY.out) (by have:=Gn.out;omega);replace k5:=k5 _ HZ.out
      first
       | (rw[dQ,dQ,HS.out,k1] at d1;simp at d1;done)
       | (simp only[bne_iff_ne,bne_eq_false_iff_eq,Qa,decide_eq_false_iff_not] at *;omega)
   ·go_wp2_with fail;go_ret;refine⟨ag ?_,HB.out⟩;rw[<-HR.out];exact (Np.bO ⟨H6.out,λj g hg=>HA.out j g (by have:=(cQ.1 hg).1;omega) hg⟩).symm
 ·have h6':6<l.length:=by omega
  have HF:Hid (r=false):=jq (by rw[<-HR.out];exact Np.aN λhf=>h6 hf.1);clear h6;go_enter func151,ntmps151;go_wp2_with fail;go_ret;exact⟨ag HF.out.symm,vQ _ _⟩
end
end Go.Proofs.YtfnopgdcaanaiaaGreatDoor
