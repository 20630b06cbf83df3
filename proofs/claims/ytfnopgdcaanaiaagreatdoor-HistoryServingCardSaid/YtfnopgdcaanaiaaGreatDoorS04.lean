/- No condition. -/
import Derived.Test.YtfnopgdcaanaiaaGreatDoorS01
set_option linter.all false
set_option maxRecDepth 100000
set_option maxHeartbeats 8000000
namespace Go.Proofs.YtfnopgdcaanaiaaGreatDoor
open Go.Proofs.Tryz
section
open Go.RowKit
theorem a5X(a:ByteArray)(v:Value)(l:List Np.Sig)(w:World)(h:SlR fi 6 w w.heap.size v l) :
 Calls prog 151 #[v,.string a] w (ahZ w.heap.size w (.bool (Np.yes (Np.go a.data.toList l)))):=by
 obtain⟨r,hr⟩:=afZ (Np.yes (Np.go a.data.toList l));rw[hr];have HR:=jq hr;have H:=jq h;obtain⟨A,c,rfl,bw,bT⟩:=ak h;clear h hr;by_cases h6:l.length<=6
 ·have H6:=jq h6;go_enter func151,ntmps151;go_wp2_with fail;go_loopw [5] (λi wr=>∃ k:Nat,k<=l.length/\i = .int .i64 k/\Hid (Below w.heap.size w wr)/\Hid (∀ j g,j<k->l[j]?=some g->Np.SigOk a.data.toList l j g)) (λi _=>l.length - (intOf i).toNat)
  case atStart=>exact⟨0,jQ _,rfl,jq (vQ _ _),jq (λj g hj=>by omega)⟩
  case round=>
   obtain⟨k,hk,rfl,HB,HA⟩:=hrel;by_cases ab:k<l.length
   ·have fw:=H.out.keep eL HB.out;have ae:=aQ ab;obtain⟨b,o,c',s,hA,bZ,hs,ay,e0,e1,e2,e3,e4,e5⟩:=sX fw ae
    cases hA
    have xm:=aQ (show 0<l.length by omega);obtain⟨b',o',c'',s',hA,_,_,_,_,z1,z2,z3,z4,_⟩:=sX fw xm;simp only[Value.slice.injEq,Option.some.injEq,Addr.mk.injEq,and_true,true_and] at hA;obtain⟨⟨rfl,rfl⟩,-⟩:=hA;simp only[Nat.zero_mul,Nat.add_zero] at z3 z4;have HN:Hid (∀ h:Np.SigOk a.data.toList l k l[k],∀ j g,j<k+1->l[j]?=some g->Np.SigOk a.data.toList l j g):=jq (λh=>TM ae HA.out h);have HF:Hid (¬ Np.SigOk a.data.toList l k l[k]->r=false):=jq (λh=>HR.out ▸ RZ ae h);have HZ:=jq xm;have rr:=jq ae;have HS:=jq hs;have oz:=HB.out.size;have tP:b<wr.heap.size:=by omega
    have bA:Hid (∀ o n,Below w.heap.size w ((wr.alloc o).drewN n)):=jq (λo n=>below_drewN (HB.out.alloc HB.out.size _) _);have o4:Hid (∀ o,Below w.heap.size w (wr.alloc o)):=jq (λo=>(HB.out.alloc HB.out.size _));have cj:=kNN k;have ck:(k:Int)<(l.length:Int):=by omega
    have bF:(0:Int)<(l.length:Int):=by omega
    have Ig:Hid (∀ m,k=m+1->∃ y,l[m]?=some y/\wr.cell? ⟨b,o+m * 6+1,none⟩=some (.int .i64 y.key)):=jq (λm hm=>by
     obtain⟨b2,o2,c2,s2,hA,_,_,_,_,y1,_⟩:=sX fw (aQ (show m<l.length by omega));simp only[Value.slice.injEq,Option.some.injEq,Addr.mk.injEq,and_true,true_and] at hA;obtain⟨⟨rfl,rfl⟩,-⟩:=hA;exact⟨_,aQ (by omega),y1⟩)
    generalize l[k]=x at *;generalize l[0]=x0 at *;clear fw hs ae xm z1 z2;by_cases gH:k=0
    ·have gY:decide ((0:Int)<(k:Int))=false:=by simp;omega
     have jO:decide (0<k)=false:=by simp;omega
     have nr:(!s.toList == a.toList)=true\/(!s.toList == a.toList)=false/\(decide (x.key<1)=true\/decide (x.key<1)=false/\(decide (1000000<x.key)=true\/decide (1000000<x.key)=false/\(decide (x.alg<1)=true\/decide (x.alg<1)=false/\(decide (3<x.alg)=true\/decide (3<x.alg)=false/\((x.frm != x0.frm)=true\/(x.frm != x0.frm)=false/\((x.til != x0.til)=true\/(x.til != x0.til)=false/\(decide (x.frm<0)=true\/decide (x.frm<0)=false/\(decide (x.til<x.frm)=true\/decide (x.til<x.frm)=false/\(decide (20000000<x.til)=true\/decide (20000000<x.til)=false))))))))):=by
      simp only[bne_iff_ne,bne_eq_false_iff_eq,Qa,decide_eq_false_iff_not];by_cases q:s.toList=a.toList
      ·simp[q];omega
      ·exact .inl (by simpa using q)
     have HX0:Hid (x0=x):=jq (by
      have h1:=HZ.out;rw[<-gH,rr.out] at h1;exact (Option.some.inj h1).symm)
     clear gH;rcases nr with d1 | ⟨d1,d2 | ⟨d2,d3 | ⟨d3,d4 | ⟨d4,d5 | ⟨d5,d6 | ⟨d6,d7 | ⟨d7,d8 | ⟨d8,d9 | ⟨d9,d10 | d10⟩⟩⟩⟩⟩⟩⟩⟩⟩
     rotate_right
     ·have bW:Hid (Np.SigOk a.data.toList l k x):=jq (by
       have e1:s.toList=a.toList:=by simpa using d1
       rw[dQ,dQ] at e1;simp only[bne_eq_false_iff_eq,decide_eq_false_iff_not] at d2 d3 d4 d5 d6 d7 d8 d9 d10;refine⟨by rw[<-HS.out,e1],by omega,by omega,by omega,λq hq=>?_,λp _ h0=>absurd h0 (by simpa using jO)⟩;rw[HZ.out] at hq;cases hq;exact⟨d6,d7⟩)
      go_wp2_with fail;go_quiet (fail);obtain⟨w2,aj⟩:=afZ ((wr.alloc (.cells #[.string s,.int .i64 x.key,.int .i64 x.alg,.int .i64 x.frm,.int .i64 x.til,.int .u64 x.sum] 50)).drewN nq);have p3:w2.cell? ⟨wr.heap.size,3,none⟩=some (.int .i64 x.frm):=by rw[<-aj];simp[go_sem]
      have p4:w2.cell? ⟨wr.heap.size,4,none⟩=some (.int .i64 x.til):=by rw[<-aj];simp[go_sem]
      have ew:Hid (Below w.heap.size w w2):=jq (by rw[<-aj];exact bA.out _ _);rw[aj];clear aj;go_wp2_with fail;go_roundw
      case rel=>exact⟨k+1,by omega,by go_num,jq ew.out,jq (HN.out bW.out)⟩
      ·simp[intOf]<;>omega
     all_goals
      go_wp2_with fail;go_quiet (fail);obtain⟨w2,aj⟩:=afZ ((wr.alloc (.cells #[.string s,.int .i64 x.key,.int .i64 x.alg,.int .i64 x.frm,.int .i64 x.til,.int .u64 x.sum] 50)).drewN nq);have p3:w2.cell? ⟨wr.heap.size,3,none⟩=some (.int .i64 x.frm):=by rw[<-aj];simp[go_sem]
      have p4:w2.cell? ⟨wr.heap.size,4,none⟩=some (.int .i64 x.til):=by rw[<-aj];simp[go_sem]
      have ew:Hid (Below w.heap.size w w2):=jq (by rw[<-aj];exact bA.out _ _);rw[aj];clear aj;go_wp2_with fail;go_ret;refine⟨ag (HF.out ?_).symm,ew.out⟩;intro ko;obtain⟨k1,k2,k3,k4,k5,k6⟩:=ko;replace k5:=k5 _ HZ.out
      first
       | (rw[dQ,dQ,HS.out,k1] at d1;simp at d1;done)
       | (simp only[bne_iff_ne,bne_eq_false_iff_eq,Qa,decide_eq_false_iff_not] at *;omega)
    ·obtain⟨m,l4⟩:∃ m,k=m+1:=⟨k - 1,by omega⟩;obtain⟨y,hy,y1⟩:=Ig.out m l4;have HY:=jq hy;have Hp:=jq l4;have gY:decide ((0:Int)<(k:Int))=true:=by simp;omega
     have jO:decide (0<k)=true:=by simp;omega
     have am:IntKind.i64.wrap ((k:Int) - 1)=(m:Int):=by rw[IntWalk.i64_in _ (by omega)];omega
     have Fm:(k:Int) - 1=(m:Int):=by omega
     have ki:(0:Int)<=(m:Int):=by omega
     have l3:(m:Int)<(l.length:Int):=by omega
     clear hy gH l4;have nr:(!s.toList == a.toList)=true\/(!s.toList == a.toList)=false/\(decide (x.key<1)=true\/decide (x.key<1)=false/\(decide (1000000<x.key)=true\/decide (1000000<x.key)=false/\(decide (x.alg<1)=true\/decide (x.alg<1)=false/\(decide (3<x.alg)=true\/decide (3<x.alg)=false/\((x.frm != x0.frm)=true\/(x.frm != x0.frm)=false/\((x.til != x0.til)=true\/(x.til != x0.til)=false/\(decide (x.key<=y.key)=true\/decide (x.key<=y.key)=false/\(decide (x.frm<0)=true\/decide (x.frm<0)=false/\(decide (x.til<x.frm)=true\/decide (x.til<x.frm)=false/\(decide (20000000<x.til)=true\/decide (20000000<x.til)=false)))))))))):=by
      simp only[bne_iff_ne,bne_eq_false_iff_eq,Qa,decide_eq_false_iff_not];by_cases q:s.toList=a.toList
      ·simp[q];omega
      ·exact .inl (by simpa using q)
     rcases nr with d1 | ⟨d1,d2 | ⟨d2,d3 | ⟨d3,d4 | ⟨d4,d5 | ⟨d5,d6 | ⟨d6,d7 | ⟨d7,d8 | ⟨d8,d9 | ⟨d9,d10 | ⟨d10,d11 | d11⟩⟩⟩⟩⟩⟩⟩⟩⟩⟩
     rotate_right
     ·have bW:Hid (Np.SigOk a.data.toList l k x):=jq (by
       have e1:s.toList=a.toList:=by simpa using d1
       rw[dQ,dQ] at e1;simp only[bne_eq_false_iff_eq,decide_eq_false_iff_not] at d2 d3 d4 d5 d6 d7 d8 d9 d10 d11;refine⟨by rw[<-HS.out,e1],by omega,by omega,by omega,λq hq=>?_,λp hp h0=>?_⟩
       ·rw[HZ.out] at hq;cases hq;exact⟨d6,d7⟩
       ·rw[Hp.out,show m+1 - 1=m by omega,HY.out] at hp;cases hp;omega)
      go_wp2_with fail;go_quiet (fail);obtain⟨w2,aj⟩:=afZ ((wr.alloc (.cells #[.string s,.int .i64 x.key,.int .i64 x.alg,.int .i64 x.frm,.int .i64 x.til,.int .u64 x.sum] 50)).drewN nq);have p3:w2.cell? ⟨wr.heap.size,3,none⟩=some (.int .i64 x.frm):=by rw[<-aj];simp[go_sem]
      have p4:w2.cell? ⟨wr.heap.size,4,none⟩=some (.int .i64 x.til):=by rw[<-aj];simp[go_sem]
      have ew:Hid (Below w.heap.size w w2):=jq (by rw[<-aj];exact bA.out _ _);rw[aj];clear aj;go_wp2_with fail;go_roundw
      case rel=>exact⟨k+1,by omega,by go_num,jq ew.out,jq (HN.out bW.out)⟩
      ·simp[intOf]<;>omega
     all_goals
      go_wp2_with fail;go_quiet (fail);obtain⟨w2,aj⟩:=afZ ((wr.alloc (.cells #[.string s,.int .i64 x.key,.int .i64 x.alg,.int .i64 x.frm,.int .i64 x.til,.int .u64 x.sum] 50)).drewN nq);have p3:w2.cell? ⟨wr.heap.size,3,none⟩=some (.int .i64 x.frm):=by rw[<-aj];simp[go_sem]
      have p4:w2.cell? ⟨wr.heap.size,4,none⟩=some (.int .i64 x.til):=by rw[<-aj];simp[go_sem]
      have ew:Hid (Below w.heap.size w w2):=jq (by rw[<-aj];exact bA.out _ _);rw[aj];clear aj;go_wp2_with fail;go_ret;refine⟨ag (HF.out ?_).symm,ew.out⟩;intro ko;obtain⟨k1,k2,k3,k4,k5,k6⟩:=ko;replace k6:=k6 y (by rw[Hp.out];exact HY.out) (by have:=Hp.out;omega);replace k5:=k5 _ HZ.out
      first
       | (rw[dQ,dQ,HS.out,k1] at d1;simp at d1;done)
       | (simp only[bne_iff_ne,bne_eq_false_iff_eq,Qa,decide_eq_false_iff_not] at *;omega)
   ·go_wp2_with fail;go_ret;refine⟨ag ?_,HB.out⟩;rw[<-HR.out];exact (Np.bV ⟨H6.out,λj g hg=>HA.out j g (by have:=(cQ.1 hg).1;omega) hg⟩).symm
 ·have h6':6<l.length:=by omega
  have HF:Hid (r=false):=jq (by rw[<-HR.out];exact Np.aR λhf=>h6 hf.1);clear h6;go_enter func151,ntmps151;go_wp2_with fail;go_ret;exact⟨ag HF.out.symm,vQ _ _⟩
end
section
section
variable {P:Program} {ops:Array Oper} {Q:Exit->Act->World->Prop} {n l:Nat}
theorem a8Q{row:String}{args:Array Value}{w:World}{R:Value->World->Prop}(h:Rows P row args w R):RowsIn (Fence.wide.inRound l) n P row args w R:=by
 intro c cs _;obtain⟨v,w',r,s⟩:=h c cs;exact⟨v,w',r,stepsIn_wide.2 s⟩
theorem Ui{o:Oper}{a:Act}{K:Act->World->Prop}{w:World}(hd:∀ c,o.op≠.defer c)(rN:¬ LetsOut Q)(h:o.wp P a w K Q\/(o.asks P a w/\LetsOut Q)):o.wpIn (Fence.wide.inRound l) n P a w K Q:=by
 have h:=h.resolve_right (λe=>rN e.2);refine⟨λf _=>trivial,?_⟩;rw[Oper.semAt_eq _ _ _ hd];unfold Oper.wp at h;generalize (execOp a.eval o).run P w=r at *
 cases r with
 | ok x w'=>
  cases x<;>simp only[Oper.upon,Oper.uponIn] at h |-<;>first | exact h | exact h.elim | skip
  ·exact⟨λe=>by simp[Fence.wide] at e,CallsIn.inRound l (callsIn_wide.2 h)⟩
  ·exact⟨λe=>by simp[Fence.wide] at e,a8Q h⟩
 | halt x w'=>cases x<;>simp only[Oper.upon,Oper.uponIn] at h |-<;>first | exact h | exact h.elim
theorem bsZ{lst:List Oper}(hd:∀ o∈lst,∀ c,o.op≠.defer c)(rN:¬ LetsOut Q):∀ {a:Act} {w:World},wpList P ops Q lst a w->wpListIn (Fence.wide.inRound l) n P ops Q lst a w:=by
 induction lst with
 | nil=>exact λh=>h
 | cons o rest ih=>
  intro a w h;have ih':∀ {a:Act} {w:World},wpList P ops Q rest a w->wpListIn (Fence.wide.inRound l) n P ops Q rest a w:=ih (λo ho=>hd o (mQ _ ho));unfold wpList at h;unfold wpListIn;split at h
  ·rename_i hw;rw[Qb hw];refine Oper.wpIn_mono (λa w h=>ih' h) (Ui (hd o (by simp)) rN h)
  ·rename_i hw;rw[Qc hw];exact⟨λ_ _=>trivial,ih' h⟩
theorem bqY{md:Region.Mode}(hd:∀ (i:Nat) (o:Oper),ops[i]?=some o->∀ c,o.op≠.defer c)(rN:¬ LetsOut Q):∀ (f:Nat) {listed:Array Bool} {a:Act} {w:World},wpAny P md ops Q f listed a w->wpAnyIn (Fence.wide.inRound l) n P md ops Q f listed a w:=by
 intro f
 induction f with
 | zero=>exact λh=>h
 | succ f ih=>
  intro listed a w h;refine⟨h.1,λi hi=>?_⟩;have h2:=h.2 i hi;unfold wpOp at h2;unfold wpOpIn
  cases ho:ops[i]? with
  | none=>rw[ho] at h2;exact ih h2
  | some o=>
   rw[ho] at h2;dsimp only at h2 |-;split at h2
   ·rename_i hw;rw[Qb hw];refine Oper.wpIn_mono (λa w h=>ih h) (Ui (hd i o ho) rN h2)
   ·rename_i hw;rw[Qc hw];exact⟨λ_ _=>trivial,ih h2⟩
end
def K8(ops:Array Oper):Bool:=ops.all λo=>match o.op with | .defer _=>false | _=>true
theorem aTQ{ops:Array Oper}(h:K8 ops=true):∀ (i:Nat) (o:Oper),ops[i]?=some o->∀ c,o.op≠.defer c:=λi o ho c e=>by
 unfold K8 at h;rw[Array.all_eq_true] at h;obtain⟨hi,hg⟩:=eQ.1 ho
 have:=h i hi
 rw[hg,e] at this
 cases this
section
variable {P:Program} {ops:Array Oper} {Q:Exit->Act->World->Prop} {n l id:Nat} {a:Act} {w:World}
theorem Gj(hd:K8 ops=true)(hm:P.follows .mixedOrders=true)(rN:¬ LetsOut Q)(h:wpAny P .any ops Q ops.size (Array.replicate ops.size false) a w.drew):(Code.region id ops true).wpIn (Fence.wide.inRound l) n P Q a w:=
 wpIn_region_any hm (bqY (aTQ hd) rN _ h)
end
theorem zR{F:Fence}{n:Nat}{P:Program}{c:Code}{Q:Exit->Act->World->Prop}{a:Act}{w:World}(h:∀ a0,a0=a->c.wpIn F n P Q a0 w):c.wpIn F n P Q a w:=h a rfl
section
variable {P:Program} {ops:Array Oper} {Q:Exit->Act->World->Prop} {n l:Nat}
theorem brX{F:Fence}{o:Oper}{a:Act}{K K':Act->World->Prop}{w:World}(h:o.wpIn F n P a w K (Exit.then K' Q)):o.wpIn F n P a w K Q:=by
 refine⟨h.1,?_⟩;have h:=h.2;generalize (o.semAt F.round a.eval).run P w=r at *
 cases r with
 | ok x w'=>
  cases x<;>simp only[Oper.uponIn] at h |-<;>first | exact h | (refine⟨h.1,h.2.mono λe w'' he=>?_⟩;cases e<;>exact he)
 | halt x w'=>cases x<;>simp only[Oper.uponIn] at h |-<;>first | exact h | exact h.elim
theorem LV{o:Oper}{rest:List Oper}{a:Act}{w:World}(hg:o.guard=none)(hd:∀ c,o.op≠.defer c)(rN:¬ LetsOut Q)
 (h:wpList P ops (Exit.then (wpListIn (Fence.wide.inRound l) n P ops Q rest) Q) [o] a w):wpListIn (Fence.wide.inRound l) n P ops Q (o::rest) a w:=by
 have hw:Region.wanted o (yielded ops a.tmps)=true:=by simp[Region.wanted,hg]
 have h1:=bsZ (Q:=Exit.then (wpListIn (Fence.wide.inRound l) n P ops Q rest) Q) (l:=l) (n:=n) (lst:=[o]) (λx hx=>by rw[List.mem_singleton] at hx;subst hx;exact hd) (λe=>rN e) h;unfold wpListIn at h1 |-;rw[Qb hw] at h1 |-;exact brX h1
theorem LX{K:Act->World->Prop}{a:Act}{w:World}(h:K a w):wpList P ops (Exit.then K Q) [] a w:=h
end
end
section
open Go.RowKit
def tz(w:World)(base:Nat)(v:Value)(bs:List UInt8):Prop:=w.ownsRow base 5 1 v bs.length (bs.map λc=>Value.int .u8 c.toNat)
structure ob(v v':Value)(w w':World):Prop where
 grown:w.grownBy w' v.ownBlock
 at_:v'.ownBlock=v.ownBlock\/∃ k,w.heap.size<=k/\v'.ownBlock=some k
theorem ob.refl(v:Value)(w:World):ob v v w w:=⟨⟨rfl,rfl,rfl,bQ _,λ_ _ _=>rfl⟩,.inl rfl⟩
theorem ob.trans{a b c:Value}{u v w:World}(h:ob a b u v)(k:ob b c v w):ob a c u w:=by
 refine⟨⟨k.grown.os.trans h.grown.os,k.grown.tape.trans h.grown.tape,k.grown.output.trans h.grown.output,yQ h.grown.size k.grown.size,λi hi hne=>?_⟩,?_⟩
 ·refine (k.grown.block i (lQ hi h.grown.size) (λe=>?_)).trans (h.grown.block i hi hne);rcases h.at_ with e' | ⟨j,hj,e'⟩
  ·rw[e'] at e;exact hne e
  ·rw[e'] at e;simp at e;omega
 ·rcases k.at_ with e | ⟨j,hj,e⟩
  ·rcases h.at_ with e' | ⟨j,hj,e'⟩
   ·exact .inl (e.trans e')
   ·exact .inr ⟨j,hj,e.trans e'⟩
  ·exact .inr ⟨j,yQ h.grown.size hj,e⟩
theorem ob.below{v v':Value}{w w':World}{base n:Nat}{e:TypeId}{k:Nat}{xs:List Value}(h:ob v v' w w')(ho:w.ownsRow base e 1 v k xs)(hb:n<=base)(hn:n<=w.heap.size):Below n w w':=
 ⟨h.grown.os,h.grown.tape,h.grown.output,h.grown.size,λi hi=>h.grown.block i (by omega) (λe=>by have:=(aWZ ho i e.symm).1;omega)⟩
theorem ob.of_below{v v':Value}{w w1 w2:World}(hb:Below w.heap.size w w1)(h:ob v v' w1 w2):ob v v' w w2:=by
 refine⟨⟨h.grown.os.trans hb.os,h.grown.tape.trans hb.tape,h.grown.output.trans hb.output,yQ hb.size h.grown.size,λi hi hne=>(h.grown.block i (lQ hi hb.size) hne).trans (hb.block i hi)⟩,?_⟩;rcases h.at_ with e | ⟨k,hk,e⟩
 ·exact .inl e
 ·exact .inr ⟨k,yQ hb.size hk,e⟩
section
variable {P:Program} (w:World)
end
def L6(base:Nat)(v:Value)(bs:List UInt8)(w:World)(e:Ending)(w':World):Prop:=∃ v',e = .returned v'/\tz w' base v' bs/\ob v v' w w'

def Np.dig(d:Int)(bs:List Int):Int:=bs.foldl (λd c=>IntKind.u64.wrap (bits .xor .u64 d (IntKind.u64.wrap c) * 1099511628211)) d
def Dg(w:World)(b:Nat)(v:Value)(bs:List Int):Prop:=∃ A c,v = .slice A bs.length c/\bs.length<=140737488355328/\bs.length<=c/\∀ i x,bs[i]?=some x->∃ k o,A=some ⟨k,o,none⟩/\k≠b/\k<w.heap.size/\w.cell? ⟨k,o+i,none⟩=some (.int .u8 x)
def Np.YH(n:Int)(i:Nat):Int:=IntKind.u64.wrap n / 2 ^ (56 - 8 * i) % 256
def Np.biK(s:ByteArray):List Int:=s.data.toList.map λc=>(c.toNat:Int)
def Np.sum(bs:List Int)(z:ByteArray)(n a f u:Int):Int:=Np.dig (Np.dig (Np.dig (Np.dig 14695981039346656037 bs) [(z.size:Int)]) (Np.biK z)) ([n,a,f,u].flatMap λn=>(List.range 8).map (Np.YH n))
theorem Dg.grow{w w':World}{b b':Nat}{v:Value}{bs:List Int}(h:Dg w b v bs)(hb:Below w.heap.size w w')(hb':w.heap.size<=b'):Dg w' b' v bs:=by
 obtain⟨A,c,hv,h1,h2,h3⟩:=h;refine⟨A,c,hv,h1,h2,λi x hx=>?_⟩;obtain⟨k,o,hA,hk,hk',hce⟩:=h3 i x hx;exact⟨k,o,hA,by omega,lQ hk' hb.size,(hb.cell hk').trans hce⟩
end
end Go.Proofs.YtfnopgdcaanaiaaGreatDoor
namespace Go.Proofs
open YtfnopgdcaanaiaaGreatDoor Tryz
open Go.Shelf
def Tryz.lays137_ren:Go.Shelf.Ren:=⟨fun | 137=>326 | 217=>354 | 266=>364 | n=>n,fun | 9=>9 | 5=>5 | 3=>3 | n=>n,fun | n=>n⟩
theorem Tryz.lays137:Go.Proofs.Lays.n137 Tryz.prog Tryz.lays137_ren:={
 mixed:=by kernel_rfl
 f137:=func326.trans (agZ)
 f217:=func354.trans (agZ)
 f266:=func364.trans (agZ)
 t3:=underlying3
 a3:=isAgg3
 z3:=Tryz.sizeOf3
 v3:=Tryz.zeroValue3
 t5:=underlying5
 a5:=isAgg5
 z5:=Tryz.sizeOf5
 v5:=Tryz.zeroValue5
 t9:=underlying9
 a9:=isAgg9
 z9:=Tryz.sizeOf9
 v9:=Tryz.zeroValue9 }
open Go.RowKit in
theorem Tryz.strings_IndexByte(s:ByteArray)(c:Int)(w:World) :
 Calls Tryz.prog 326 #[.string s,.int .u8 c] w λe w'=>e = .returned (.int .i64 (Lib.indexByte s.data.toList c.toNat.toUInt8))/\w'=w:=Any.strings_IndexByte Tryz.lays137 s c w
end Go.Proofs
namespace Go.Proofs
open YtfnopgdcaanaiaaGreatDoor Tryz
open Go.Shelf
def Tryz.sortZone_ren:Go.Shelf.Ren:=⟨fun | 6=>116 | 15=>186 | 14=>185 | 28=>259 | 29=>260 | 20=>251 | 21=>252 | 22=>253 | 23=>254 | 24=>255 | 25=>256 | 26=>257 | 27=>258 | 46=>321 | 47=>322 | 48=>323 | 49=>324 | 50=>325 | 57=>353 | n=>n,fun | 22=>174 | 24=>44 | 25=>182 | 3=>3 | 39=>249 | 0=>0 | 53=>92 | 55=>48 | 4=>4 | 46=>305 | 45=>304 | 50=>214 | 5=>5 | 9=>9 | 66=>351 | 70=>355 | 76=>376 | 77=>377 | n=>n,fun | n=>n⟩
theorem Tryz.sortZone:Go.Proofs.SlLaysF0.n6 Tryz.prog Tryz.sortZone_ren:=by
 constructor
 case f6=>exact⟨f116.name,by decide,func116.trans (agZ)⟩
 case f14=>exact⟨f185.name,by decide,func185.trans (agZ)⟩
 case f15=>exact func186.trans (agZ)
 case f20=>exact⟨f251.name,by decide,func251.trans (agZ)⟩
 case f21=>exact⟨f252.name,by decide,func252.trans (agZ)⟩
 case f22=>exact⟨f253.name,by decide,func253.trans (agZ)⟩
 case f23=>exact⟨f254.name,by decide,func254.trans (agZ)⟩
 case f24=>exact⟨f255.name,by decide,func255.trans (agZ)⟩
 case f25=>exact⟨f256.name,by decide,func256.trans (agZ)⟩
 case f26=>exact⟨f257.name,by decide,func257.trans (agZ)⟩
 case f27=>exact⟨f258.name,by decide,func258.trans (agZ)⟩
 case f28=>exact func259.trans (agZ)
 case f29=>exact func260.trans (agZ)
 case f46=>exact⟨f321.name,by decide,func321.trans (agZ)⟩
 case f47=>exact func322.trans (agZ)
 case f48=>exact func323.trans (agZ)
 case f49=>exact⟨f324.name,by decide,func324.trans (agZ)⟩
 case f50=>exact⟨f325.name,by decide,func325.trans (agZ)⟩
 case f57=>exact⟨f353.name,by decide,func353.trans (agZ)⟩
 all_goals first | kernel_rfl | (intro _;kernel_rfl) | (intro _;rfl)
end Go.Proofs
