/- Parts of the proof. No condition. -/
import Derived.Test.YtfnopgdcaanaiaaGreatDoorW06
set_option linter.all false
set_option maxRecDepth 100000
set_option maxHeartbeats 8000000
namespace Go.Proofs.YtfnopgdcaanaiaaGreatDoor
open Go.Proofs.Tryz
section
open Go.RowKit
theorem PJ(a:ByteArray)(v:Value)(l:List Np.Sig)(w:World)(h:SlR dl 6 w w.heap.size v l) :
 Calls prog 151 #[v,.string a] w (aFQ w.heap.size w (.bool (Np.yes (Np.dY a.data.toList l)))):=by
 obtain⟨r,hr⟩:=aCQ (Np.yes (Np.dY a.data.toList l));rw[hr];have HR:=jq hr;have H:=jq h;obtain⟨A,c,rfl,bq,bN⟩:=ak h;clear h hr;by_cases h6:l.length<=6
 ·have H6:=jq h6;go_enter func151,ntmps151;go_wp2_with fail;go_loopw [5] (λi wr=>∃ k:Nat,k<=l.length/\i = .int .i64 k/\Hid (Below w.heap.size w wr)/\Hid (∀ j g,j<k->l[j]?=some g->Np.SigOk a.data.toList l j g)) (λi _=>l.length - (intOf i).toNat)
  case atStart=>exact⟨0,jQ _,rfl,jq (vQ _ _),jq (λj g hj=>by omega)⟩
  case round=>
   obtain⟨k,hk,rfl,HB,HA⟩:=hrel;by_cases aa:k<l.length
   ·have cY:=H.out.keep dD HB.out;have ac:=aQ aa;obtain⟨b,o,c',s,hA,bR,hs,an,e0,e1,e2,e3,e4,e5⟩:=mO cY ac
    cases hA
    have pV:=aQ (show 0<l.length by omega);obtain⟨b',o',c'',s',hA,_,_,_,_,z1,z2,z3,z4,_⟩:=mO cY pV;simp only[Value.slice.injEq,Option.some.injEq,Addr.mk.injEq,and_true,true_and] at hA;obtain⟨⟨rfl,rfl⟩,-⟩:=hA;simp only[Nat.zero_mul,Nat.add_zero] at z3 z4;have HN:Hid (∀ h:Np.SigOk a.data.toList l k l[k],∀ j g,j<k+1->l[j]?=some g->Np.SigOk a.data.toList l j g):=jq (λh=>Ju ac HA.out h);have HF:Hid (¬ Np.SigOk a.data.toList l k l[k]->r=false):=jq (λh=>HR.out ▸ I5 ac h);have HZ:=jq pV;have qh:=jq ac;have HS:=jq hs;have xW:=HB.out.size;have s9:b<wr.heap.size:=by omega
    have aY:Hid (∀ o n,Below w.heap.size w ((wr.alloc o).drewN n)):=jq (λo n=>below_drewN (HB.out.alloc HB.out.size _) _);have mS:Hid (∀ o,Below w.heap.size w (wr.alloc o)):=jq (λo=>(HB.out.alloc HB.out.size _));have bV:(0:Int)<=(k:Int):=by omega
    have bT:(k:Int)<(l.length:Int):=by omega
    have bk:(0:Int)<(l.length:Int):=by omega
    have zk:Hid (∀ m,k=m+1->∃ y,l[m]?=some y/\wr.cell? ⟨b,o+m * 6+1,none⟩=some (.int .i64 y.key)):=jq (λm hm=>by
     obtain⟨b2,o2,c2,s2,hA,_,_,_,_,y1,_⟩:=mO cY (aQ (show m<l.length by omega));simp only[Value.slice.injEq,Option.some.injEq,Addr.mk.injEq,and_true,true_and] at hA;obtain⟨⟨rfl,rfl⟩,-⟩:=hA;exact⟨_,aQ (by omega),y1⟩)
    generalize l[k]=x at *;generalize l[0]=x0 at *;clear cY hs ac pV z1 z2;by_cases gC:k=0
    ·have jj:decide ((0:Int)<(k:Int))=false:=by simp;omega
     have jk:decide (0<k)=false:=by simp;omega
     have nA:(!s.toList == a.toList)=true\/(!s.toList == a.toList)=false/\(decide (x.key<1)=true\/decide (x.key<1)=false/\(decide (1000000<x.key)=true\/decide (1000000<x.key)=false/\(decide (x.alg<1)=true\/decide (x.alg<1)=false/\(decide (3<x.alg)=true\/decide (3<x.alg)=false/\((x.frm != x0.frm)=true\/(x.frm != x0.frm)=false/\((x.til != x0.til)=true\/(x.til != x0.til)=false/\(decide (x.frm<0)=true\/decide (x.frm<0)=false/\(decide (x.til<x.frm)=true\/decide (x.til<x.frm)=false/\(decide (20000000<x.til)=true\/decide (20000000<x.til)=false))))))))):=by
      simp only[bne_iff_ne,bne_eq_false_iff_eq,Qa,decide_eq_false_iff_not];by_cases q:s.toList=a.toList
      ·simp[q];omega
      ·exact .inl (by simpa using q)
     have Lj:Hid (x0=x):=jq (by
      have h1:=HZ.out;rw[<-gC,qh.out] at h1;exact (Option.some.inj h1).symm)
     clear gC;rcases nA with d1 | ⟨d1,d2 | ⟨d2,d3 | ⟨d3,d4 | ⟨d4,d5 | ⟨d5,d6 | ⟨d6,d7 | ⟨d7,d8 | ⟨d8,d9 | ⟨d9,d10 | d10⟩⟩⟩⟩⟩⟩⟩⟩⟩
     rotate_right
     ·have bl:Hid (Np.SigOk a.data.toList l k x):=jq (by
       have e1:s.toList=a.toList:=by simpa using d1
       rw[dQ,dQ] at e1;simp only[bne_eq_false_iff_eq,decide_eq_false_iff_not] at d2 d3 d4 d5 d6 d7 d8 d9 d10;refine⟨by rw[<-HS.out,e1],by omega,by omega,by omega,λq hq=>?_,λp _ h0=>absurd h0 (by simpa using jk)⟩;rw[HZ.out] at hq;cases hq;exact⟨d6,d7⟩)
      go_wp2_with fail;go_quiet (fail);obtain⟨w2,aj⟩:=aCQ ((wr.alloc (.cells #[.string s,.int .i64 x.key,.int .i64 x.alg,.int .i64 x.frm,.int .i64 x.til,.int .u64 x.sum] 50)).drewN nq);have p3:w2.cell? ⟨wr.heap.size,3,none⟩=some (.int .i64 x.frm):=by rw[<-aj];simp[go_sem]
      have p4:w2.cell? ⟨wr.heap.size,4,none⟩=some (.int .i64 x.til):=by rw[<-aj];simp[go_sem]
      have eV:Hid (Below w.heap.size w w2):=jq (by rw[<-aj];exact aY.out _ _);rw[aj];clear aj;go_wp2_with fail;go_roundw
      case rel=>exact⟨k+1,by omega,by go_num,jq eV.out,jq (HN.out bl.out)⟩
      case measure=>simp[intOf] <;> omega
     all_goals
      go_wp2_with fail;go_quiet (fail);obtain⟨w2,aj⟩:=aCQ ((wr.alloc (.cells #[.string s,.int .i64 x.key,.int .i64 x.alg,.int .i64 x.frm,.int .i64 x.til,.int .u64 x.sum] 50)).drewN nq);have p3:w2.cell? ⟨wr.heap.size,3,none⟩=some (.int .i64 x.frm):=by rw[<-aj];simp[go_sem]
      have p4:w2.cell? ⟨wr.heap.size,4,none⟩=some (.int .i64 x.til):=by rw[<-aj];simp[go_sem]
      have eV:Hid (Below w.heap.size w w2):=jq (by rw[<-aj];exact aY.out _ _);rw[aj];clear aj;go_wp2_with fail;go_ret;refine⟨ag (HF.out ?_).symm,eV.out⟩;intro dO;obtain⟨k1,k2,k3,k4,k5,k6⟩:=dO;replace k5:=k5 _ HZ.out
      first
       | (rw[dQ,dQ,HS.out,k1] at d1;simp at d1;done)
       | (simp only[bne_iff_ne,bne_eq_false_iff_eq,Qa,decide_eq_false_iff_not] at *;omega)
    ·obtain⟨m,mw⟩:∃ m,k=m+1:=⟨k - 1,by omega⟩;obtain⟨y,hy,y1⟩:=zk.out m mw;have HY:=jq hy;have FA:=jq mw;have jj:decide ((0:Int)<(k:Int))=true:=by simp;omega
     have jk:decide (0<k)=true:=by simp;omega
     have ah:IntKind.i64.wrap ((k:Int) - 1)=(m:Int):=by rw[IntWalk.i64_in _ (by omega)];omega
     have D2:(k:Int) - 1=(m:Int):=by omega
     have nE:(0:Int)<=(m:Int):=by omega
     have qE:(m:Int)<(l.length:Int):=by omega
     clear hy gC mw;have nA:(!s.toList == a.toList)=true\/(!s.toList == a.toList)=false/\(decide (x.key<1)=true\/decide (x.key<1)=false/\(decide (1000000<x.key)=true\/decide (1000000<x.key)=false/\(decide (x.alg<1)=true\/decide (x.alg<1)=false/\(decide (3<x.alg)=true\/decide (3<x.alg)=false/\((x.frm != x0.frm)=true\/(x.frm != x0.frm)=false/\((x.til != x0.til)=true\/(x.til != x0.til)=false/\(decide (x.key<=y.key)=true\/decide (x.key<=y.key)=false/\(decide (x.frm<0)=true\/decide (x.frm<0)=false/\(decide (x.til<x.frm)=true\/decide (x.til<x.frm)=false/\(decide (20000000<x.til)=true\/decide (20000000<x.til)=false)))))))))):=by
      simp only[bne_iff_ne,bne_eq_false_iff_eq,Qa,decide_eq_false_iff_not];by_cases q:s.toList=a.toList
      ·simp[q];omega
      ·exact .inl (by simpa using q)
     rcases nA with d1 | ⟨d1,d2 | ⟨d2,d3 | ⟨d3,d4 | ⟨d4,d5 | ⟨d5,d6 | ⟨d6,d7 | ⟨d7,d8 | ⟨d8,d9 | ⟨d9,d10 | ⟨d10,d11 | d11⟩⟩⟩⟩⟩⟩⟩⟩⟩⟩
     rotate_right
     ·have bl:Hid (Np.SigOk a.data.toList l k x):=jq (by
       have e1:s.toList=a.toList:=by simpa using d1
       rw[dQ,dQ] at e1;simp only[bne_eq_false_iff_eq,decide_eq_false_iff_not] at d2 d3 d4 d5 d6 d7 d8 d9 d10 d11;refine⟨by rw[<-HS.out,e1],by omega,by omega,by omega,λq hq=>?_,λp hp h0=>?_⟩
       ·rw[HZ.out] at hq;cases hq;exact⟨d6,d7⟩
       ·rw[FA.out,show m+1 - 1=m by omega,HY.out] at hp;cases hp;omega)
      go_wp2_with fail;go_quiet (fail);obtain⟨w2,aj⟩:=aCQ ((wr.alloc (.cells #[.string s,.int .i64 x.key,.int .i64 x.alg,.int .i64 x.frm,.int .i64 x.til,.int .u64 x.sum] 50)).drewN nq);have p3:w2.cell? ⟨wr.heap.size,3,none⟩=some (.int .i64 x.frm):=by rw[<-aj];simp[go_sem]
      have p4:w2.cell? ⟨wr.heap.size,4,none⟩=some (.int .i64 x.til):=by rw[<-aj];simp[go_sem]
      have eV:Hid (Below w.heap.size w w2):=jq (by rw[<-aj];exact aY.out _ _);rw[aj];clear aj;go_wp2_with fail;go_roundw
      case rel=>exact⟨k+1,by omega,by go_num,jq eV.out,jq (HN.out bl.out)⟩
      case measure=>simp[intOf] <;> omega
     all_goals
      go_wp2_with fail;go_quiet (fail);obtain⟨w2,aj⟩:=aCQ ((wr.alloc (.cells #[.string s,.int .i64 x.key,.int .i64 x.alg,.int .i64 x.frm,.int .i64 x.til,.int .u64 x.sum] 50)).drewN nq);have p3:w2.cell? ⟨wr.heap.size,3,none⟩=some (.int .i64 x.frm):=by rw[<-aj];simp[go_sem]
      have p4:w2.cell? ⟨wr.heap.size,4,none⟩=some (.int .i64 x.til):=by rw[<-aj];simp[go_sem]
      have eV:Hid (Below w.heap.size w w2):=jq (by rw[<-aj];exact aY.out _ _);rw[aj];clear aj;go_wp2_with fail;go_ret;refine⟨ag (HF.out ?_).symm,eV.out⟩;intro dO;obtain⟨k1,k2,k3,k4,k5,k6⟩:=dO;replace k6:=k6 y (by rw[FA.out];exact HY.out) (by have:=FA.out;omega);replace k5:=k5 _ HZ.out
      first
       | (rw[dQ,dQ,HS.out,k1] at d1;simp at d1;done)
       | (simp only[bne_iff_ne,bne_eq_false_iff_eq,Qa,decide_eq_false_iff_not] at *;omega)
   ·go_wp2_with fail;go_ret;refine⟨ag ?_,HB.out⟩;rw[<-HR.out];exact (Np.ba ⟨H6.out,λj g hg=>HA.out j g (by have:=(cQ.1 hg).1;omega) hg⟩).symm
 ·have h6':6<l.length:=by omega
  have HF:Hid (r=false):=jq (by rw[<-HR.out];exact Np.aC λhf=>h6 hf.1);clear h6;go_enter func151,ntmps151;go_wp2_with fail;go_ret;exact⟨ag HF.out.symm,vQ _ _⟩
end
end Go.Proofs.YtfnopgdcaanaiaaGreatDoor
