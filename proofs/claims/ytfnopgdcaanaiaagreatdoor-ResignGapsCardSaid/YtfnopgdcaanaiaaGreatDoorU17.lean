/- Parts of the proof. No condition. -/
import Derived.Test.YtfnopgdcaanaiaaGreatDoorU13
import Derived.Test.YtfnopgdcaanaiaaGreatDoorU15
set_option linter.all false
set_option maxRecDepth 100000
set_option maxHeartbeats 8000000
namespace Go.Proofs.YtfnopgdcaanaiaaGreatDoor
open Go.Proofs.Tryz
section
open Go.RowKit
def mH(w:World)(B:Nat)(xs:List Value):Prop:=∀ j x,xs[j]?=some x->w.cell? ⟨B,j,none⟩=some x/\w.frozen? ⟨B,j,none⟩=false
theorem mH.keep{w w':World}{B n:Nat}{xs:List Value}(h:mH w B xs)(hb:Below n w w')(hB:B<n):mH w' B xs:=λj x hx=>by
 obtain⟨h3,h4⟩:=h j x hx;exact⟨(hb.cell (p:=⟨B,j,none⟩) hB).trans h3,(hb.frozen (p:=⟨B,j,none⟩) hB).trans h4⟩
theorem mH.store{w:World}{B:Nat}{xs:List Value}(h:mH w B xs){k:Nat}(hk:k<xs.length)(u:Value):mH (w.setCell ⟨B,k,none⟩ u) B (xs.set k u):=λj x hx=>by
 rw[List.getElem?_set] at hx;by_cases yX:k=j
 ·subst yX;rw[Qb rfl,Qb hk] at hx
  cases hx
  obtain⟨h3,h4⟩:=h k _ (aQ hk);exact⟨by simp[World.cell?_setCell_same,h3],(World.frozen?_setCell _ _ _ _).trans h4⟩
 ·rw[Qc yX] at hx;obtain⟨h3,h4⟩:=h j x hx;exact⟨by rw[xQ _ _ _ _ (by simp <;> omega)];exact h3,(World.frozen?_setCell _ _ _ _).trans h4⟩
def xI(_:World)(_:Nat)(e:List Value)(x:Bool):Prop:=e = [.bool x]
theorem XH:cL xI:=λ_ _ _ _ _ h _=>h
theorem mH.slr{w:World}{B:Nat}{xs:List Bool}(h:mH w B (xs.map Value.bool))(hB:B<w.heap.size)(hl:xs.length<=140737488355328):SlR xI 1 w w.heap.size (.slice (some ⟨B,0,none⟩) xs.length xs.length) xs:=
 ⟨_,_,rfl,bQ _,hl,λj x hx=>by
  obtain⟨h3,_⟩:=h j (.bool x) (by rw[List.getElem?_map,hx];rfl);refine⟨B,0,[.bool x],rfl,hB,rfl,λi v hv=>?_,rfl⟩
  match i,hv with
  | 0,hv=>cases hv;simpa using h3⟩
theorem Rl{w:World}{B n c:Nat}{A:Option Addr}{xs:List Bool}(h:SlR xI 1 w B (.slice A n c) xs){k:Nat}{x:Bool}(hx:xs[k]?=some x):∃ (b o:Nat),A=some ⟨b,o,none⟩/\b<B/\w.cell? ⟨b,o+k,none⟩=some (.bool x):=by
 obtain⟨A',c',hv,hc,_,he⟩:=h;simp only[Value.slice.injEq] at hv;obtain⟨rfl,_,_⟩:=hv;obtain⟨b,o,e,rfl,hb,_,hce,rfl⟩:=he k x hx;exact⟨b,o,rfl,hb,by have:=hce 0 _ rfl;simpa using this⟩
theorem Wq(n j:Nat)(hj:j<n):(madeCells #[Value.bool false] n)[j]?=some (.bool false):=by
 unfold madeCells;simp[hj,Nat.mod_one]
theorem Tryz.infoBoolZ:(prog.info? 4).map (λi=>(i.zero,i.size,i.bytes))=some (some (.bool false),1,1):=by kernel_rfl
theorem Wr(n:Nat)(hn:n<=20000)(w:World):(Instr.makeSlice 237 (.int .i64 n) (.int .i64 n)).run prog w = .ok (.slice (some ⟨w.heap.size,0,none⟩) n n) (w.alloc (.cells (madeCells #[Value.bool false] n) 4)):=by
 obtain⟨i,hi,hp⟩:=Option.map_eq_some_iff.1 Tryz.infoBoolZ;simp only[Prod.mk.injEq] at hp;obtain⟨hz,hs,hb⟩:=hp
 have:=run_make (P:=prog) w 237 4 i (.bool false) underlying237 hi hz .i64 .i64 n n (by omega) (Int.le_refl _) (by rw[hb];omega) (by omega)
 rw[hs] at this;simpa [Value.cells] using this
def Np.mr(x:Np.Signed)(b:List UInt8):Bool:=b == []||(x.set.type != 2&&x.set.type != 1)
def Np.lH(l:List Np.Signed)(B:List (List UInt8)):List Bool:=(l.zip B).map λp=>Np.mr p.1 p.2
theorem MX{l:List Np.Signed}{B:List (List UInt8)}{k:Nat}{x:Np.Signed}{b:List UInt8}(hx:l[k]?=some x)(hb:B[k]?=some b):(Np.lH l B)[k]?=some (Np.mr x b):=by
 unfold Np.lH;rw[List.getElem?_map,(List.getElem?_zip_eq_some (z:=(x,b))).2 ⟨hx,hb⟩];rfl
theorem Yc(a:ByteArray)(v:Value)(l:List Np.Signed)(bn:l.length<=20000)(ho:Np.InOrder ⟨a.data.toList,l⟩)(hv:∀ x∈l,Np.aD x.set.name=true)(w:World)(hd:SlR cA 5 w w.heap.size v l) :
 Calls prog 238 #[.agg #[.string a,v]] w (uh xI 1 w (Np.lH l (Np.dE ⟨a.data.toList,l⟩))):=by
 obtain⟨B,hB⟩:=abK (Np.dE ⟨a.data.toList,l⟩);have iM:B.length=l.length:=by rw[<-hB];exact Np.qU _
 have HB':=jq hB;have eT:=jq iM;have ld:Hid ((Np.lH l B).length=l.length):=jq (by unfold Np.lH;rw[List.length_map,List.length_zip,iM,Nat.min_self]);have HD:=jq hd;have HO:=jq ho;have HV:=jq hv;obtain⟨A,c,rfl,aW,bh⟩:=aj hd;rw[hB];clear hd ho hv hB iM;have HW:Hid (∀ o,Below w.heap.size w (w.alloc o)):=jq (λo=>(vQ _ w).alloc (bQ _) _);go_enter func238,ntmps238;go_wp2_with fail;refine (No a _ l bn HO.out HV.out _ (HD.out.later bI eF (HW.out _))).mono ?_;rintro e w1 ⟨bv,rfl,gd,an⟩;have bU:w.heap.size<w1.heap.size:=by have:=an.size;simp at this;omega
 have c1':w1.cell? ⟨w.heap.size,1,none⟩=some (.slice A l.length c):=by rw[an.cell (by simp)];go_simp
 have ar:=jq ((HW.out _).trans (an.mono (by simp)));obtain⟨A2,c2,rfl,db,cY⟩:=aj gd;rw[HB'.out] at db cY gd |-;rw[eT.out] at db cY gd |-;have nw:=jq gd;clear an gd;have fu:=Wr l.length bn;have HZ:Hid (∀ j,j<l.length->(madeCells #[Value.bool false] l.length)[j]?=some (.bool false)):=jq (λj hj=>Wq _ _ hj);generalize madeCells #[Value.bool false] l.length=Z at fu HZ;go_wp2_with fail;obtain⟨Bs,nI⟩:=abK w1.heap.size;obtain⟨w2,ag⟩:=abK (w1.alloc (.cells Z 4));have ab:Below Bs w1 w2:=by rw[<-ag,<-nI];exact (vQ _ _).alloc (bQ _) _
 have aO:Bs<w2.heap.size:=by rw[<-ag];simp;omega
 have xp:Hid (mH w2 Bs (((Np.lH l B).take 0).map Value.bool++List.replicate (l.length - 0) (Value.bool false))):=jq (λj x hx=>by
  rw[List.take_zero,List.map_nil,List.nil_append,Nat.sub_zero,List.getElem?_replicate] at hx;split at hx
  ·rename_i hj
   cases hx
   refine⟨?_,?_⟩
   ·rw[<-ag,<-nI];simp[go_sem];exact HZ.out j hj
   ·rw[<-ag,<-nI];simp[go_sem]
  ·cases hx)
 have ai:=jq ab;rw[ag,nI];clear ag ab fu HZ;go_loopw [5] (λi wr=>∃ k:Nat,k<=l.length/\i = .int .i64 k/\Hid (Below Bs w1 wr)/\Bs<wr.heap.size/\Hid (mH wr Bs (((Np.lH l B).take k).map Value.bool++List.replicate (l.length - k) (Value.bool false)))) (λi _=>l.length - (intOf i).toNat)
 case atStart=>exact⟨0,jQ _,rfl,ai,aO,xp⟩
 case round=>
  obtain⟨k,hk,rfl,HB,tf,HR⟩:=hrel;have d1:wr.cell? ⟨w.heap.size,1,none⟩=some (.slice A l.length c):=abZ HB.out c1';have az:Hid (Below w.heap.size w wr):=abJ ar HB.out;have bO:w.heap.size<wr.heap.size:=by omega
  by_cases aa:k<l.length
  ·obtain⟨x,ac⟩:∃ x,l[k]?=some x:=⟨_,aQ aa⟩;obtain⟨bb,dw⟩:∃ bb,B[k]?=some bb:=⟨_,aQ (by rw[eT.out];omega)⟩;obtain⟨b,o,c',sn,dv,sv,hA,bp,_,aw,cE,aR,aN,f0,f1,f2,f3,f4⟩:=fk (HD.out.keep bI az.out) ac
   cases hA
   obtain⟨b2,o2,sb,rfl,uW,kB,Gq,g0⟩:=pa ((nw.out.keep mv (HB.out.acQ))) dw;have el:=jq kB;have bL:(0:Int)<=(k:Int):=by omega
   have bY:(k:Int)<(l.length:Int):=by omega
   have an:b<wr.heap.size:=by omega
   have cJ:Hid (∀ q,Np.mr x bb=q->∀ W,mH W Bs (((Np.lH l B).take k).map Value.bool++List.replicate (l.length - k) (Value.bool false))->mH (W.setCell ⟨Bs,k,none⟩ (.bool q)) Bs (((Np.lH l B).take (k+1)).map Value.bool++List.replicate (l.length - (k+1)) (Value.bool false))):=jq (λq hq W hW=>by
    obtain⟨Uq,he⟩:=cQ.1 (MX ac dw);have h1:=hW.store (k:=k) (by rw[List.length_append,List.length_map,List.length_take,List.length_replicate,ld.out];omega) (.bool q);have h2:(((Np.lH l B).take k).map Value.bool++List.replicate (l.length - k) (Value.bool false)).set k (Value.bool q)=((Np.lH l B).take (k+1)).map Value.bool++List.replicate (l.length - (k+1)) (Value.bool false):=by
     rw[show l.length - k=(l.length - (k+1))+1 by omega,List.replicate_succ,List.set_append_right _ _ (by rw[List.length_map,List.length_take];omega),List.length_map,List.length_take,ld.out,show k - min k l.length=0 by omega,List.set_cons_zero,fQ Uq,he,hq,List.map_append,List.append_assoc];rfl
    rw[h2] at h1;exact h1)
   obtain⟨gW,iP⟩:=HR.out k (Value.bool false) (by rw[oQ (by rw[List.length_map,List.length_take];omega),List.length_map,List.length_take,ld.out,show k - min k l.length=0 by omega,List.getElem?_replicate,Qb (by omega)]);obtain⟨ty,eD⟩:=abK x.set.type;have lc:Hid (∀ q,(bb == []||(ty != 2&&ty != 1))=q->Np.mr x bb=q):=jq (λq h=>by unfold Np.mr;rw[eD];exact h);rw[eD] at f1;clear ac dw aw kB aR aN eD f2 f3 f4;by_cases bT:bb = []
   ·obtain rfl:sb=⟨#[]⟩:=jD (by rw[el.out,bT]);have HX:=jq (cJ.out true (lc.out true (by simp[bT])));clear bT;go_wp2_with fail;go_roundw
    case rel=>exact⟨k+1,by omega,by go_num,jq (HB.out.setCell (by simp) _),by simpa using tf,jq (HX.out _ HR.out)⟩
    case measure=>simp[intOf] <;> omega
   ·have zg:(sb.toList == [])=false:=by rw[dQ,el.out];simpa using bT
    by_cases h2:ty=2
    ·have HX:=jq (cJ.out false (lc.out false (by simp[bT,h2])));subst h2;clear bT;go_wp2_with fail;go_roundw
     case rel=>exact⟨k+1,by omega,by go_num,jq (HB.out.setCell (by simp) _),by simpa using tf,jq (HX.out _ HR.out)⟩
     case measure=>simp[intOf] <;> omega
    ·by_cases h1:ty=1
     ·have HX:=jq (cJ.out false (lc.out false (by simp[bT,h1])));subst h1;clear bT;go_wp2_with fail;go_roundw
      case rel=>exact⟨k+1,by omega,by go_num,jq (HB.out.setCell (by simp) _),by simpa using tf,jq (HX.out _ HR.out)⟩
      case measure=>simp[intOf] <;> omega
     ·have HX:=jq (cJ.out true (lc.out true (by simp[h1,h2])));have t1:(ty != 2)=true:=by simpa using h2
      have t2:(ty != 1)=true:=by simpa using h1
      clear bT h1 h2;go_wp2_with fail;go_roundw
      case rel=>exact⟨k+1,by omega,by go_num,jq (HB.out.setCell (by simp) _),by simpa using tf,jq (HX.out _ HR.out)⟩
      case measure=>simp[intOf] <;> omega
  ·have HE:Hid (SlR xI 1 wr wr.heap.size (.slice (some ⟨Bs,0,none⟩) l.length l.length) (Np.lH l B)):=jq (by
    have h1:=HR.out;rw[kQ (by rw[ld.out];omega),show l.length - k=0 by omega,List.replicate_zero,List.append_nil] at h1;have h2:=h1.slr tf (by rw[ld.out];omega);rw[ld.out] at h2;exact h2)
   go_wp2_with fail;go_ret;exact⟨_,rfl,HE.out,az.out⟩
theorem MY{x:Np.Signed}{b:List UInt8} : (Np.mr x b=false)↔(b≠[]/\(x.set.type=2\/x.set.type=1)):=by
 unfold Np.mr;by_cases h0:b = [] <;> by_cases h2:x.set.type=2 <;> by_cases h1:x.set.type=1 <;> simp[h0,h2,h1]
def Np.wz(a:List UInt8)(l:List Np.Signed)(B:List (List UInt8)):Prop:=∀ (k:Nat) (x:Np.Signed) (b:List UInt8),l[k]?=some x->B[k]?=some b->Np.fp a x.sigs/\(Np.mr x b=false->x.sigs = [])
theorem X3(a:ByteArray)(v:Value)(l:List Np.Signed)(bn:l.length<=20000)(ho:Np.InOrder ⟨a.data.toList,l⟩)(hv:∀ x∈l,Np.aD x.set.name=true)(w:World)(hd:SlR cA 5 w w.heap.size v l) :
 Calls prog 163 #[.agg #[.string a,v]] w (aeJ w.heap.size w (.bool (Np.yes (Np.wz a.data.toList l (Np.dE ⟨a.data.toList,l⟩))))):=by
 obtain⟨B,hB⟩:=abK (Np.dE ⟨a.data.toList,l⟩);have iM:B.length=l.length:=by rw[<-hB];exact Np.qU _
 rw[hB];obtain⟨r,hr⟩:=abK (Np.yes (Np.wz a.data.toList l B));rw[hr];have HR:=jq hr;have HB':=jq hB;have eT:=jq iM;have ld:Hid ((Np.lH l B).length=l.length):=jq (by unfold Np.lH;rw[List.length_map,List.length_zip,iM,Nat.min_self]);have HD:=jq hd;have HO:=jq ho;have HV:=jq hv;obtain⟨A,c,rfl,aW,bh⟩:=aj hd;clear hd ho hv hB iM hr;have HW:Hid (∀ o,Below w.heap.size w (w.alloc o)):=jq (λo=>(vQ _ w).alloc (bQ _) _);go_enter func163,ntmps163;go_wp2_with fail;refine (Yc a _ l bn HO.out HV.out _ (HD.out.later bI eF (HW.out _))).mono ?_;rintro e w1 ⟨bv,rfl,gd,an⟩;have bU:w.heap.size<w1.heap.size:=by have:=an.size;simp at this;omega
 have c0':w1.cell? ⟨w.heap.size,0,none⟩=some (.string a):=by rw[an.cell (by simp)];go_simp
 have c1':w1.cell? ⟨w.heap.size,1,none⟩=some (.slice A l.length c):=by rw[an.cell (by simp)];go_simp
 have ar:=jq ((HW.out _).trans (an.mono (by simp)));obtain⟨A2,c2,rfl,db,cY⟩:=aj gd;rw[HB'.out] at db cY gd |-;rw[ld.out] at db cY gd |-;have nw:=jq gd;clear an gd;go_wp2_with fail;go_loopw [4] (λi wr=>∃ k:Nat,k<=l.length/\i = .int .i64 k/\Hid (Below w1.heap.size w1 wr)/\Hid (∀ (j:Nat) (x:Np.Signed) (b:List UInt8),j<k->l[j]?=some x->B[j]?=some b->Np.fp a.data.toList x.sigs/\(Np.mr x b=false->x.sigs = []))) (λi _=>l.length - (intOf i).toNat)
 case atStart=>exact⟨0,jQ _,rfl,jq (vQ _ _),jq (λj x b hj=>by omega)⟩
 case round=>
  obtain⟨k,hk,rfl,HB,HA⟩:=hrel;have al:=HB.out.size;have az:=abJ ar HB.out;have d0:wr.cell? ⟨w.heap.size,0,none⟩=some (.string a):=abZ HB.out c0';have d1:wr.cell? ⟨w.heap.size,1,none⟩=some (.slice A l.length c):=abZ HB.out c1';have bO:w.heap.size<wr.heap.size:=by omega
  by_cases aa:k<l.length
  ·obtain⟨x,ac⟩:∃ x,l[k]?=some x:=⟨_,aQ aa⟩;obtain⟨bb,dw⟩:∃ bb,B[k]?=some bb:=⟨_,aQ (by rw[eT.out];omega)⟩;obtain⟨b,o,c',sn,dv,sv,hA,bp,_,aw,cE,aR,aN,f0,f1,f2,f3,f4⟩:=fk (HD.out.keep bI az.out) ac
   cases hA
   obtain⟨As,cs,rfl,_,_⟩:=aj aN;obtain⟨b2,o2,rfl,uW,g0⟩:=Rl (nw.out.keep XH HB.out) (MX ac dw);have HN:Hid (Np.fp a.data.toList x.sigs->(Np.mr x bb=false->x.sigs = [])->∀ (j:Nat) (y:Np.Signed) (b:List UInt8),j<k+1->l[j]?=some y->B[j]?=some b->Np.fp a.data.toList y.sigs/\(Np.mr y b=false->y.sigs = [])):=jq (λh1 h2 j y b hj hy hb=>by
    by_cases e:j=k
    ·subst e;rw[ac] at hy;rw[dw] at hb;cases hy;cases hb;exact⟨h1,h2⟩
    ·exact HA.out j y b (by omega) hy hb)
   have HF:Hid (¬ (Np.fp a.data.toList x.sigs/\(Np.mr x bb=false->x.sigs = []))->r=false):=jq (λh=>by
    rw[<-HR.out];exact Np.aK λq=>h (q k _ _ ac dw))
   have bL:(0:Int)<=(k:Int):=by omega
   have bY:(k:Int)<(l.length:Int):=by omega
   have an:b<wr.heap.size:=by omega
   have ab:b2<wr.heap.size:=by omega
   have nP:∀ (g:bi wr) (p:Addr),p.block<wr.heap.size->g.w.cell? p=wr.cell? p:=λg p h=>g.cell p h;obtain⟨bf,ed⟩:=abK (Np.yes (Np.fp a.data.toList x.sigs));have AF:=jq ed;have bE:∀ g:bi wr,Calls prog 151 #[.slice As x.sigs.length cs,.string a] g.w λe w'=>e = .returned (.bool bf)/\Below g.w.heap.size g.w w':=λg=>by
    rw[<-ed];exact Yf a _ x.sigs g.w ((aN.keep cT (g.below.acQ)).more dU (by have:=g.size;omega))
   have HC:=jq bE;obtain⟨ow,how⟩:=abK (Np.mr x bb);have gq:=jq how;rw[how] at g0;clear ac dw aw aR aN ed bE how f0 f1 f2 f3
   cases bf with
   | false=>
    have HX:Hid (r=false):=jq (HF.out λh=>by have:=Np.bS h.1;rw[AF.out] at this;cases this);go_wp2_with fail;refine adX ?_
    repeat (go_big_quiet_step ((go_at_call 151;exact Calls.grow_of (HC.out _))))
    refine wpQuiet_nil ?_;rintro _ ⟨g,rfl⟩;go_wp2_with fail;go_ret;exact⟨ae HX.out.symm,az.out.trans (g.below.acQ)⟩
   | true=>
    have IE:Hid (Np.fp a.data.toList x.sigs):=jq (Np.fo.1 AF.out)
    cases ow with
    | true=>
     have HX:=jq (HN.out IE.out (λh=>by rw[gq.out] at h;cases h));go_wp2_with fail;refine adX ?_
     repeat (go_big_quiet_step ((go_at_call 151;exact Calls.grow_of (HC.out _))))
     refine wpQuiet_nil ?_;rintro _ ⟨g,rfl⟩;go_wp2_with fail;go_roundw
     case rel=>exact⟨k+1,by omega,by go_num,abJ HB g.below,jq HX.out⟩
     case measure=>simp[intOf] <;> omega
    | false=>
     obtain⟨N,hN⟩:=abK x.sigs.length;have fF:=jq hN;rw[hN] at f4 HC;clear hN;by_cases h0:N=0
     ·have HX:=jq (HN.out IE.out (λ_=>rQ (fF.out.trans h0)));subst h0;go_wp2_with fail;refine adX ?_
      repeat (go_big_quiet_step ((go_at_call 151;exact Calls.grow_of (HC.out _))))
      refine wpQuiet_nil ?_;rintro _ ⟨g,rfl⟩;go_wp2_with fail;go_roundw
      case rel=>exact⟨k+1,by omega,by go_num,abJ HB g.below,jq HX.out⟩
      case measure=>simp[intOf] <;> omega
     ·have HX:Hid (r=false):=jq (HF.out λh=>h0 (by have:=h.2 gq.out;rw[this] at fF;exact fF.out.symm));have hp:decide ((0:Int)<(N:Int))=true:=by simp;omega
      have hp2:decide (0<N)=true:=by simp;omega
      clear h0;go_wp2_with fail;refine adX ?_
      repeat (go_big_quiet_step ((go_at_call 151;exact Calls.grow_of (HC.out _))))
      refine wpQuiet_nil ?_;rintro _ ⟨g,rfl⟩;go_wp2_with fail;go_ret;exact⟨ae HX.out.symm,az.out.trans (g.below.acQ)⟩
  ·go_wp2_with fail;go_ret;refine⟨ae ?_,az.out⟩;rw[<-HR.out];exact (Np.bS λi x b hx hb=>HA.out i x b (by have:=(cQ.1 hx).1;omega) hx hb).symm
end
end Go.Proofs.YtfnopgdcaanaiaaGreatDoor
