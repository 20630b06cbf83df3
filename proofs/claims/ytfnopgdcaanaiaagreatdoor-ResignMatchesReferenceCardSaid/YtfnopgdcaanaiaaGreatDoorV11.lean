/- Parts of the proof. No condition. -/
import Derived.Test.YtfnopgdcaanaiaaGreatDoorV06
set_option linter.all false
set_option maxRecDepth 100000
set_option maxHeartbeats 8000000
namespace Go.Proofs.YtfnopgdcaanaiaaGreatDoor
open Go.Proofs.Tryz
section
open Go.RowKit
theorem amK(a:ByteArray)(v:Value)(l:List Np.Sig)(w:World)(h:SlR de 6 w w.heap.size v l) :
 Calls prog 151 #[v,.string a] w (aOJ w.heap.size w (.bool (Np.yes (Np.gH a.data.toList l)))):=by
 obtain⟨r,hr⟩:=aJZ (Np.yes (Np.gH a.data.toList l));rw[hr];have HR:=jq hr;have H:=jq h;obtain⟨A,c,rfl,be,bC⟩:=aj h;clear h hr;by_cases h6:l.length<=6
 ·have H6:=jq h6;go_enter func151,ntmps151;go_wp2_with fail;go_loopw [5] (λi wr=>∃ k:Nat,k<=l.length/\i = .int .i64 k/\Hid (Below w.heap.size w wr)/\Hid (∀ j g,j<k->l[j]?=some g->Np.SigOk a.data.toList l j g)) (λi _=>l.length - (intOf i).toNat)
  case atStart=>exact⟨0,jQ _,rfl,jq (vQ _ _),jq (λj g hj=>by omega)⟩
  case round=>
   obtain⟨k,hk,rfl,HB,HA⟩:=hrel;by_cases aa:k<l.length
   ·have dy:=H.out.keep bH HB.out;have ab:=aQ aa;obtain⟨b,o,c',s,hA,bj,hs,al,e0,e1,e2,e3,e4,e5⟩:=pV dy ab
    cases hA
    have wh:=aQ (show 0<l.length by omega);obtain⟨b',o',c'',s',hA,_,_,_,_,z1,z2,z3,z4,_⟩:=pV dy wh;simp only[Value.slice.injEq,Option.some.injEq,Addr.mk.injEq,and_true,true_and] at hA;obtain⟨⟨rfl,rfl⟩,-⟩:=hA;simp only[Nat.zero_mul,Nat.add_zero] at z3 z4;have HN:Hid (∀ h:Np.SigOk a.data.toList l k l[k],∀ j g,j<k+1->l[j]?=some g->Np.SigOk a.data.toList l j g):=jq (λh=>QX ab HA.out h);have HF:Hid (¬ Np.SigOk a.data.toList l k l[k]->r=false):=jq (λh=>HR.out ▸ Pj ab h);have HZ:=jq wh;have mW:=jq ab;have HS:=jq hs;have pD:=HB.out.size;have vD:b<wr.heap.size:=by omega
    have bi:Hid (∀ o n,Below w.heap.size w ((wr.alloc o).drewN n)):=jq (λo n=>below_drewN (HB.out.alloc HB.out.size _) _);have o8:Hid (∀ o,Below w.heap.size w (wr.alloc o)):=jq (λo=>(HB.out.alloc HB.out.size _));have bF:(0:Int)<=(k:Int):=by omega
    have bL:(k:Int)<(l.length:Int):=by omega
    have ba:(0:Int)<(l.length:Int):=by omega
    have Gx:Hid (∀ m,k=m+1->∃ y,l[m]?=some y/\wr.cell? ⟨b,o+m * 6+1,none⟩=some (.int .i64 y.key)):=jq (λm hm=>by
     obtain⟨b2,o2,c2,s2,hA,_,_,_,_,y1,_⟩:=pV dy (aQ (show m<l.length by omega));simp only[Value.slice.injEq,Option.some.injEq,Addr.mk.injEq,and_true,true_and] at hA;obtain⟨⟨rfl,rfl⟩,-⟩:=hA;exact⟨_,aQ (by omega),y1⟩)
    generalize l[k]=x at *;generalize l[0]=x0 at *;clear dy hs ab wh z1 z2;by_cases ji:k=0
    ·have gU:decide ((0:Int)<(k:Int))=false:=by simp;omega
     have iz:decide (0<k)=false:=by simp;omega
     have mG:(!s.toList == a.toList)=true\/(!s.toList == a.toList)=false/\(decide (x.key<1)=true\/decide (x.key<1)=false/\(decide (1000000<x.key)=true\/decide (1000000<x.key)=false/\(decide (x.alg<1)=true\/decide (x.alg<1)=false/\(decide (3<x.alg)=true\/decide (3<x.alg)=false/\((x.frm != x0.frm)=true\/(x.frm != x0.frm)=false/\((x.til != x0.til)=true\/(x.til != x0.til)=false/\(decide (x.frm<0)=true\/decide (x.frm<0)=false/\(decide (x.til<x.frm)=true\/decide (x.til<x.frm)=false/\(decide (20000000<x.til)=true\/decide (20000000<x.til)=false))))))))):=by
      simp only[bne_iff_ne,bne_eq_false_iff_eq,Qa,decide_eq_false_iff_not];by_cases q:s.toList=a.toList
      ·simp[q];omega
      ·exact .inl (by simpa using q)
     have HX0:Hid (x0=x):=jq (by
      have h1:=HZ.out;rw[<-ji,mW.out] at h1;exact (Option.some.inj h1).symm)
     clear ji;rcases mG with d1 | ⟨d1,d2 | ⟨d2,d3 | ⟨d3,d4 | ⟨d4,d5 | ⟨d5,d6 | ⟨d6,d7 | ⟨d7,d8 | ⟨d8,d9 | ⟨d9,d10 | d10⟩⟩⟩⟩⟩⟩⟩⟩⟩
     rotate_right
     ·have bG:Hid (Np.SigOk a.data.toList l k x):=jq (by
       have e1:s.toList=a.toList:=by simpa using d1
       rw[dQ,dQ] at e1;simp only[bne_eq_false_iff_eq,decide_eq_false_iff_not] at d2 d3 d4 d5 d6 d7 d8 d9 d10;refine⟨by rw[<-HS.out,e1],by omega,by omega,by omega,λq hq=>?_,λp _ h0=>absurd h0 (by simpa using iz)⟩;rw[HZ.out] at hq;cases hq;exact⟨d6,d7⟩)
      go_wp2_with fail;go_quiet (fail);obtain⟨w2,ag⟩:=aJZ ((wr.alloc (.cells #[.string s,.int .i64 x.key,.int .i64 x.alg,.int .i64 x.frm,.int .i64 x.til,.int .u64 x.sum] 50)).drewN nq);have p3:w2.cell? ⟨wr.heap.size,3,none⟩=some (.int .i64 x.frm):=by rw[<-ag];simp[go_sem]
      have p4:w2.cell? ⟨wr.heap.size,4,none⟩=some (.int .i64 x.til):=by rw[<-ag];simp[go_sem]
      have fk:Hid (Below w.heap.size w w2):=jq (by rw[<-ag];exact bi.out _ _);rw[ag];clear ag;go_wp2_with fail;go_roundw
      case rel=>exact⟨k+1,by omega,by go_num,jq fk.out,jq (HN.out bG.out)⟩
      case measure=>simp[intOf] <;> omega
     all_goals
      go_wp2_with fail;go_quiet (fail);obtain⟨w2,ag⟩:=aJZ ((wr.alloc (.cells #[.string s,.int .i64 x.key,.int .i64 x.alg,.int .i64 x.frm,.int .i64 x.til,.int .u64 x.sum] 50)).drewN nq);have p3:w2.cell? ⟨wr.heap.size,3,none⟩=some (.int .i64 x.frm):=by rw[<-ag];simp[go_sem]
      have p4:w2.cell? ⟨wr.heap.size,4,none⟩=some (.int .i64 x.til):=by rw[<-ag];simp[go_sem]
      have fk:Hid (Below w.heap.size w w2):=jq (by rw[<-ag];exact bi.out _ _);rw[ag];clear ag;go_wp2_with fail;go_ret;refine⟨ae (HF.out ?_).symm,fk.out⟩;intro kb;obtain⟨k1,k2,k3,k4,k5,k6⟩:=kb;replace k5:=k5 _ HZ.out
      first
       | (rw[dQ,dQ,HS.out,k1] at d1;simp at d1;done)
       | (simp only[bne_iff_ne,bne_eq_false_iff_eq,Qa,decide_eq_false_iff_not] at *;omega)
    ·obtain⟨m,mJ⟩:∃ m,k=m+1:=⟨k - 1,by omega⟩;obtain⟨y,hy,y1⟩:=Gx.out m mJ;have HY:=jq hy;have F5:=jq mJ;have gU:decide ((0:Int)<(k:Int))=true:=by simp;omega
     have iz:decide (0<k)=true:=by simp;omega
     have ai:IntKind.i64.wrap ((k:Int) - 1)=(m:Int):=by rw[IntWalk.i64_in _ (by omega)];omega
     have Eo:(k:Int) - 1=(m:Int):=by omega
     have jh:(0:Int)<=(m:Int):=by omega
     have rM:(m:Int)<(l.length:Int):=by omega
     clear hy ji mJ;have mG:(!s.toList == a.toList)=true\/(!s.toList == a.toList)=false/\(decide (x.key<1)=true\/decide (x.key<1)=false/\(decide (1000000<x.key)=true\/decide (1000000<x.key)=false/\(decide (x.alg<1)=true\/decide (x.alg<1)=false/\(decide (3<x.alg)=true\/decide (3<x.alg)=false/\((x.frm != x0.frm)=true\/(x.frm != x0.frm)=false/\((x.til != x0.til)=true\/(x.til != x0.til)=false/\(decide (x.key<=y.key)=true\/decide (x.key<=y.key)=false/\(decide (x.frm<0)=true\/decide (x.frm<0)=false/\(decide (x.til<x.frm)=true\/decide (x.til<x.frm)=false/\(decide (20000000<x.til)=true\/decide (20000000<x.til)=false)))))))))):=by
      simp only[bne_iff_ne,bne_eq_false_iff_eq,Qa,decide_eq_false_iff_not];by_cases q:s.toList=a.toList
      ·simp[q];omega
      ·exact .inl (by simpa using q)
     rcases mG with d1 | ⟨d1,d2 | ⟨d2,d3 | ⟨d3,d4 | ⟨d4,d5 | ⟨d5,d6 | ⟨d6,d7 | ⟨d7,d8 | ⟨d8,d9 | ⟨d9,d10 | ⟨d10,d11 | d11⟩⟩⟩⟩⟩⟩⟩⟩⟩⟩
     rotate_right
     ·have bG:Hid (Np.SigOk a.data.toList l k x):=jq (by
       have e1:s.toList=a.toList:=by simpa using d1
       rw[dQ,dQ] at e1;simp only[bne_eq_false_iff_eq,decide_eq_false_iff_not] at d2 d3 d4 d5 d6 d7 d8 d9 d10 d11;refine⟨by rw[<-HS.out,e1],by omega,by omega,by omega,λq hq=>?_,λp hp h0=>?_⟩
       ·rw[HZ.out] at hq;cases hq;exact⟨d6,d7⟩
       ·rw[F5.out,show m+1 - 1=m by omega,HY.out] at hp;cases hp;omega)
      go_wp2_with fail;go_quiet (fail);obtain⟨w2,ag⟩:=aJZ ((wr.alloc (.cells #[.string s,.int .i64 x.key,.int .i64 x.alg,.int .i64 x.frm,.int .i64 x.til,.int .u64 x.sum] 50)).drewN nq);have p3:w2.cell? ⟨wr.heap.size,3,none⟩=some (.int .i64 x.frm):=by rw[<-ag];simp[go_sem]
      have p4:w2.cell? ⟨wr.heap.size,4,none⟩=some (.int .i64 x.til):=by rw[<-ag];simp[go_sem]
      have fk:Hid (Below w.heap.size w w2):=jq (by rw[<-ag];exact bi.out _ _);rw[ag];clear ag;go_wp2_with fail;go_roundw
      case rel=>exact⟨k+1,by omega,by go_num,jq fk.out,jq (HN.out bG.out)⟩
      case measure=>simp[intOf] <;> omega
     all_goals
      go_wp2_with fail;go_quiet (fail);obtain⟨w2,ag⟩:=aJZ ((wr.alloc (.cells #[.string s,.int .i64 x.key,.int .i64 x.alg,.int .i64 x.frm,.int .i64 x.til,.int .u64 x.sum] 50)).drewN nq);have p3:w2.cell? ⟨wr.heap.size,3,none⟩=some (.int .i64 x.frm):=by rw[<-ag];simp[go_sem]
      have p4:w2.cell? ⟨wr.heap.size,4,none⟩=some (.int .i64 x.til):=by rw[<-ag];simp[go_sem]
      have fk:Hid (Below w.heap.size w w2):=jq (by rw[<-ag];exact bi.out _ _);rw[ag];clear ag;go_wp2_with fail;go_ret;refine⟨ae (HF.out ?_).symm,fk.out⟩;intro kb;obtain⟨k1,k2,k3,k4,k5,k6⟩:=kb;replace k6:=k6 y (by rw[F5.out];exact HY.out) (by have:=F5.out;omega);replace k5:=k5 _ HZ.out
      first
       | (rw[dQ,dQ,HS.out,k1] at d1;simp at d1;done)
       | (simp only[bne_iff_ne,bne_eq_false_iff_eq,Qa,decide_eq_false_iff_not] at *;omega)
   ·go_wp2_with fail;go_ret;refine⟨ae ?_,HB.out⟩;rw[<-HR.out];exact (Np.cu ⟨H6.out,λj g hg=>HA.out j g (by have:=(cQ.1 hg).1;omega) hg⟩).symm
 ·have h6':6<l.length:=by omega
  have HF:Hid (r=false):=jq (by rw[<-HR.out];exact Np.aS λhf=>h6 hf.1);clear h6;go_enter func151,ntmps151;go_wp2_with fail;go_ret;exact⟨ae HF.out.symm,vQ _ _⟩
end
end Go.Proofs.YtfnopgdcaanaiaaGreatDoor
