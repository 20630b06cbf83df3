/- Parts of the proof. No condition. -/
import Derived.Test.YtbfbobfbgabjiaaGreatDoorP13
import Derived.Test.YtbfbobfbgabjiaaGreatDoorP18
import Derived.Test.YtbfbobfbgabjiaaGreatDoorP20
import Derived.Test.YtbfbobfbgabjiaaGreatDoorP21
set_option linter.all false
set_option maxRecDepth 100000
set_option maxHeartbeats 8000000
namespace Go.Proofs.YtbfbobfbgabjiaaGreatDoor
open Go.Proofs.Tryz
section
open Go.RowKit
def oi(w:World)(B:Nat)(xs:List Value):Prop:=∀ j x,xs[j]?=some x->w.cell? ⟨B,j,none⟩=some x/\w.frozen? ⟨B,j,none⟩=false
theorem oi.keep{w w':World}{B n:Nat}{xs:List Value}(h:oi w B xs)(hb:Below n w w')(hB:B<n):oi w' B xs:=λj x hx=>by
 obtain⟨h3,h4⟩:=h j x hx;exact⟨(hb.cell (p:=⟨B,j,none⟩) hB).trans h3,(hb.frozen (p:=⟨B,j,none⟩) hB).trans h4⟩
theorem oi.store{w:World}{B:Nat}{xs:List Value}(h:oi w B xs){k:Nat}(hk:k<xs.length)(u:Value):oi (w.setCell ⟨B,k,none⟩ u) B (xs.set k u):=λj x hx=>by
 rw[List.getElem?_set] at hx;by_cases BR:k=j
 ·subst BR;rw[Qb rfl,Qb hk] at hx
  cases hx
  obtain⟨h3,h4⟩:=h k _ (aQ hk);exact⟨by simp[World.cell?_setCell_same,h3],(World.frozen?_setCell _ _ _ _).trans h4⟩
 ·rw[Qc BR] at hx;obtain⟨h3,h4⟩:=h j x hx;exact⟨by rw[xQ _ _ _ _ (by simp <;> omega)]; exact h3,(World.frozen?_setCell _ _ _ _).trans h4⟩
def AK(_:World)(_:Nat)(e:List Value)(x:Bool):Prop:=e = [.bool x]
theorem atQ:dw AK:=λ_ _ _ _ _ h _=>h
theorem oi.slr{w:World}{B:Nat}{xs:List Bool}(h:oi w B (xs.map Value.bool))(hB:B<w.heap.size)(hl:xs.length<=140737488355328):SlR AK 1 w w.heap.size (.slice (some ⟨B,0,none⟩) xs.length xs.length) xs:=
 ⟨_,_,rfl,bQ _,hl,λj x hx=>by
  obtain⟨h3,_⟩:=h j (.bool x) (by rw[List.getElem?_map,hx]; rfl);refine⟨B,0,[.bool x],rfl,hB,rfl,λi v hv=>?_,rfl⟩
  match i,hv with
  | 0,hv=>cases hv; simpa using h3⟩
theorem Vu{w:World}{B n c:Nat}{A:Option Addr}{xs:List Bool}(h:SlR AK 1 w B (.slice A n c) xs){k:Nat}{x:Bool}(hx:xs[k]?=some x):∃ (b o:Nat),A=some ⟨b,o,none⟩/\b<B/\w.cell? ⟨b,o+k,none⟩=some (.bool x):=by
 obtain⟨A',c',hv,hc,_,he⟩:=h;simp only[Value.slice.injEq] at hv;obtain⟨rfl,_,_⟩:=hv;obtain⟨b,o,e,rfl,hb,_,hce,rfl⟩:=he k x hx;exact⟨b,o,rfl,hb,by have:=hce 0 _ rfl; simpa using this⟩
theorem ahJ(n j:Nat)(hj:j<n):(madeCells #[Value.bool false] n)[j]?=some (.bool false):=by
 unfold madeCells;simp[hj,Nat.mod_one]
theorem Tryz.infoBoolZ:(prog.info? 4).map (λi=>(i.zero,i.size,i.bytes))=some (some (.bool false),1,1):=by kernel_rfl
theorem ahK(n:Nat)(hn:n<=20000)(w:World):(Instr.makeSlice 232 (.int .i64 n) (.int .i64 n)).run prog w = .ok (.slice (some ⟨w.heap.size,0,none⟩) n n) (w.alloc (.cells (madeCells #[Value.bool false] n) 4)):=by
 obtain⟨i,hi,hp⟩:=Option.map_eq_some_iff.1 Tryz.infoBoolZ;simp only[Prod.mk.injEq] at hp;obtain⟨hz,hs,hb⟩:=hp
 have:=run_make (P:=prog) w 232 4 i (.bool false) underlying232 hi hz .i64 .i64 n n (by omega) (Int.le_refl _) (by rw[hb]; omega) (by omega)
 rw[hs] at this;simpa [Value.cells] using this
def Np.nN(x:Np.Signed)(b:List UInt8):Bool:=b == []||(x.set.type != 2&&x.set.type != 1)
def Np.mP(l:List Np.Signed)(B:List (List UInt8)):List Bool:=(l.zip B).map λp=>Np.nN p.1 p.2
theorem QH{l:List Np.Signed}{B:List (List UInt8)}{k:Nat}{x:Np.Signed}{b:List UInt8}(hx:l[k]?=some x)(hb:B[k]?=some b):(Np.mP l B)[k]?=some (Np.nN x b):=by
 unfold Np.mP;rw[List.getElem?_map,(List.getElem?_zip_eq_some (z:=(x,b))).2 ⟨hx,hb⟩]; rfl
theorem axK(a:ByteArray)(v:Value)(l:List Np.Signed)(bV:l.length<=20000)(ho:Np.InOrder ⟨a.data.toList,l⟩)(hv:∀ x∈l,Np.aD x.set.name=true)(w:World)(hd:SlR bC 5 w w.heap.size v l) :
 Calls prog 186 #[.agg #[.string a,v]] w (xw AK 1 w (Np.mP l (Np.dT ⟨a.data.toList,l⟩))):=by
 obtain⟨B,hB⟩:∃ B,Np.dT ⟨a.data.toList,l⟩=B:=⟨_,rfl⟩;have jV:B.length=l.length:=by rw[<-hB]; exact Np.tr _
 have HB':=jq hB;have ed:=jq jV;have oa:Hid ((Np.mP l B).length=l.length):=jq (by unfold Np.mP; rw[List.length_map,List.length_zip,jV,Nat.min_self]);have HD:=jq hd;have HO:=jq ho;have HV:=jq hv;obtain⟨A,c,rfl,aV,bi⟩:=ah hd;rw[hB];clear hd ho hv hB jV;have HW:Hid (∀ o,Below w.heap.size w (w.alloc o)):=jq (λo=>(vQ _ w).alloc (bQ _) _);go_enter func186,ntmps186;go_wp2_with fail;refine (Q0 a _ l bV HO.out HV.out _ (HD.out.later aN bN (HW.out _))).mono ?_;rintro e w1 ⟨bv,rfl,ie,ap⟩;have ep:w.heap.size<w1.heap.size:=by have:=ap.size; simp at this; omega
 have c1':w1.cell? ⟨w.heap.size,1,none⟩=some (.slice A l.length c):=by rw[ap.cell (by simp)]; go_simp
 have ay:=jq ((HW.out _).trans (ap.mono (by simp)));obtain⟨A2,c2,rfl,dG,dm⟩:=ah ie;rw[HB'.out] at dG dm ie |-;rw[ed.out] at dG dm ie |-;have em:=jq ie;clear ap ie;have gh:=ahK l.length bV;have HZ:Hid (∀ j,j<l.length->(madeCells #[Value.bool false] l.length)[j]?=some (.bool false)):=jq (λj hj=>ahJ _ _ hj);generalize madeCells #[Value.bool false] l.length=Z at gh HZ;go_wp2_with fail;obtain⟨Bs,ox⟩:∃ Bs,w1.heap.size=Bs:=⟨_,rfl⟩;obtain⟨w2,aj⟩:∃ w2,w1.alloc (.cells Z 4)=w2:=⟨_,rfl⟩;have ab:Below Bs w1 w2:=by rw[<-aj,<-ox]; exact (vQ _ _).alloc (bQ _) _
 have aM:Bs<w2.heap.size:=by rw[<-aj]; simp; omega
 have jM:Hid (oi w2 Bs (((Np.mP l B).take 0).map Value.bool++List.replicate (l.length - 0) (Value.bool false))):=jq (λj x hx=>by
  rw[List.take_zero,List.map_nil,List.nil_append,Nat.sub_zero,List.getElem?_replicate] at hx;split at hx
  ·rename_i hj
   cases hx
   refine⟨?_,?_⟩
   ·rw[<-aj,<-ox]; simp[go_sem]; exact HZ.out j hj
   ·rw[<-aj,<-ox]; simp[go_sem]
  ·cases hx)
 have al:=jq ab;rw[aj,ox];clear aj ab gh HZ;go_loopw [5] (λi wr=>∃ k:Nat,k<=l.length/\i = .int .i64 k/\Hid (Below Bs w1 wr)/\Bs<wr.heap.size/\Hid (oi wr Bs (((Np.mP l B).take k).map Value.bool++List.replicate (l.length - k) (Value.bool false)))) (λi _=>l.length - (intOf i).toNat)
 case atStart=>exact⟨0,jQ _,rfl,al,aM,jM⟩
 case round=>
  obtain⟨k,hk,rfl,HB,no,HR⟩:=hrel;have d1:wr.cell? ⟨w.heap.size,1,none⟩=some (.slice A l.length c):=(HB.out.cell (by dsimp only; omega)).trans c1';have aw:Hid (Below w.heap.size w wr):=jq (ay.out.trans (HB.out.mono (by omega)));have dz:w.heap.size<wr.heap.size:=by omega
  by_cases aa:k<l.length
  ·obtain⟨x,ac⟩:∃ x,l[k]?=some x:=⟨_,aQ aa⟩;obtain⟨bb,eI⟩:∃ bb,B[k]?=some bb:=⟨_,aQ (by rw[ed.out]; omega)⟩;obtain⟨b,o,c',sn,dv,sv,hA,bS,_,av,cA,aL,ax,f0,f1,f2,f3,f4⟩:=eE (HD.out.keep aN aw.out) ac
   cases hA
   obtain⟨b2,o2,sb,rfl,yq,mK,JU,g0⟩:=sM ((em.out.keep iL (HB.out.mono (by omega)))) eI;have eO:=jq mK;have bH:(0:Int)<=(k:Int):=by omega
   have bG:(k:Int)<(l.length:Int):=by omega
   have ap:b<wr.heap.size:=by omega
   have dS:Hid (∀ q,Np.nN x bb=q->∀ W,oi W Bs (((Np.mP l B).take k).map Value.bool++List.replicate (l.length - k) (Value.bool false))->oi (W.setCell ⟨Bs,k,none⟩ (.bool q)) Bs (((Np.mP l B).take (k+1)).map Value.bool++List.replicate (l.length - (k+1)) (Value.bool false))):=jq (λq hq W hW=>by
    obtain⟨YX,he⟩:=cQ.1 (QH ac eI);have h1:=hW.store (k:=k) (by rw[List.length_append,List.length_map,List.length_take,List.length_replicate,oa.out]; omega) (.bool q);have h2:(((Np.mP l B).take k).map Value.bool++List.replicate (l.length - k) (Value.bool false)).set k (Value.bool q)=((Np.mP l B).take (k+1)).map Value.bool++List.replicate (l.length - (k+1)) (Value.bool false):=by
     rw[show l.length - k=(l.length - (k+1))+1 by omega,List.replicate_succ,List.set_append_right _ _ (by rw[List.length_map,List.length_take]; omega),List.length_map,List.length_take,oa.out,show k - min k l.length=0 by omega,List.set_cons_zero,fQ YX,he,hq,List.map_append,List.append_assoc]; rfl
    rw[h2] at h1;exact h1)
   obtain⟨gz,nC⟩:=HR.out k (Value.bool false) (by rw[oQ (by rw[List.length_map,List.length_take]; omega),List.length_map,List.length_take,oa.out,show k - min k l.length=0 by omega,List.getElem?_replicate,Qb (by omega)]);obtain⟨ty,dK⟩:∃ ty,x.set.type=ty:=⟨_,rfl⟩;have jL:Hid (∀ q,(bb == []||(ty != 2&&ty != 1))=q->Np.nN x bb=q):=jq (λq h=>by unfold Np.nN; rw[dK]; exact h);rw[dK] at f1;clear ac eI av mK aL ax dK f2 f3 f4;by_cases cN:bb = []
   ·obtain rfl:sb=⟨#[]⟩:=iM (by rw[eO.out,cN]);have HX:=jq (dS.out true (jL.out true (by simp[cN])));clear cN;go_wp2_with fail;go_roundw
    case rel=>exact⟨k+1,by omega,by go_num,jq (HB.out.setCell (by simp) _),by simpa using no,jq (HX.out _ HR.out)⟩
    case measure=>simp[intOf] <;> omega
   ·have BX:(sb.toList == [])=false:=by rw[dQ,eO.out]; simpa using cN
    by_cases h2:ty=2
    ·have HX:=jq (dS.out false (jL.out false (by simp[cN,h2])));subst h2;clear cN;go_wp2_with fail;go_roundw
     case rel=>exact⟨k+1,by omega,by go_num,jq (HB.out.setCell (by simp) _),by simpa using no,jq (HX.out _ HR.out)⟩
     case measure=>simp[intOf] <;> omega
    ·by_cases h1:ty=1
     ·have HX:=jq (dS.out false (jL.out false (by simp[cN,h1])));subst h1;clear cN;go_wp2_with fail;go_roundw
      case rel=>exact⟨k+1,by omega,by go_num,jq (HB.out.setCell (by simp) _),by simpa using no,jq (HX.out _ HR.out)⟩
      case measure=>simp[intOf] <;> omega
     ·have HX:=jq (dS.out true (jL.out true (by simp[h1,h2])));have t1:(ty != 2)=true:=by simpa using h2
      have t2:(ty != 1)=true:=by simpa using h1
      clear cN h1 h2;go_wp2_with fail;go_roundw
      case rel=>exact⟨k+1,by omega,by go_num,jq (HB.out.setCell (by simp) _),by simpa using no,jq (HX.out _ HR.out)⟩
      case measure=>simp[intOf] <;> omega
  ·have HE:Hid (SlR AK 1 wr wr.heap.size (.slice (some ⟨Bs,0,none⟩) l.length l.length) (Np.mP l B)):=jq (by
    have h1:=HR.out;rw[kQ (by rw[oa.out]; omega),show l.length - k=0 by omega,List.replicate_zero,List.append_nil] at h1;have h2:=h1.slr no (by rw[oa.out]; omega);rw[oa.out] at h2;exact h2)
   go_wp2_with fail;go_ret;exact⟨_,rfl,HE.out,aw.out⟩
theorem QI{x:Np.Signed}{b:List UInt8} : (Np.nN x b=false)↔(b≠[]/\(x.set.type=2\/x.set.type=1)):=by
 unfold Np.nN;by_cases h0:b = [] <;> by_cases h2:x.set.type=2 <;> by_cases h1:x.set.type=1 <;> simp[h0,h2,h1]
def Np.zz(a:List UInt8)(l:List Np.Signed)(B:List (List UInt8)):Prop:=∀ (k:Nat) (x:Np.Signed) (b:List UInt8),l[k]?=some x->B[k]?=some b->Np.gr a x.sigs/\(Np.nN x b=false->x.sigs = [])
theorem awQ(a:ByteArray)(v:Value)(l:List Np.Signed)(bV:l.length<=20000)(ho:Np.InOrder ⟨a.data.toList,l⟩)(hv:∀ x∈l,Np.aD x.set.name=true)(w:World)(hd:SlR bC 5 w w.heap.size v l) :
 Calls prog 116 #[.agg #[.string a,v]] w λe w'=>e = .returned (.bool (Np.yes (Np.zz a.data.toList l (Np.dT ⟨a.data.toList,l⟩))))/\Below w.heap.size w w':=by
 obtain⟨B,hB⟩:∃ B,Np.dT ⟨a.data.toList,l⟩=B:=⟨_,rfl⟩;have jV:B.length=l.length:=by rw[<-hB]; exact Np.tr _
 rw[hB];obtain⟨r,hr⟩:∃ r,Np.yes (Np.zz a.data.toList l B)=r:=⟨_,rfl⟩;rw[hr];have HR:=jq hr;have HB':=jq hB;have ed:=jq jV;have oa:Hid ((Np.mP l B).length=l.length):=jq (by unfold Np.mP; rw[List.length_map,List.length_zip,jV,Nat.min_self]);have HD:=jq hd;have HO:=jq ho;have HV:=jq hv;obtain⟨A,c,rfl,aV,bi⟩:=ah hd;clear hd ho hv hB jV hr;have HW:Hid (∀ o,Below w.heap.size w (w.alloc o)):=jq (λo=>(vQ _ w).alloc (bQ _) _);go_enter func116,ntmps116;go_wp2_with fail;refine (axK a _ l bV HO.out HV.out _ (HD.out.later aN bN (HW.out _))).mono ?_;rintro e w1 ⟨bv,rfl,ie,ap⟩;have ep:w.heap.size<w1.heap.size:=by have:=ap.size; simp at this; omega
 have c0':w1.cell? ⟨w.heap.size,0,none⟩=some (.string a):=by rw[ap.cell (by simp)]; go_simp
 have c1':w1.cell? ⟨w.heap.size,1,none⟩=some (.slice A l.length c):=by rw[ap.cell (by simp)]; go_simp
 have ay:=jq ((HW.out _).trans (ap.mono (by simp)));obtain⟨A2,c2,rfl,dG,dm⟩:=ah ie;rw[HB'.out] at dG dm ie |-;rw[oa.out] at dG dm ie |-;have em:=jq ie;clear ap ie;go_wp2_with fail;go_loopw [4] (λi wr=>∃ k:Nat,k<=l.length/\i = .int .i64 k/\Hid (Below w1.heap.size w1 wr)/\Hid (∀ (j:Nat) (x:Np.Signed) (b:List UInt8),j<k->l[j]?=some x->B[j]?=some b->Np.gr a.data.toList x.sigs/\(Np.nN x b=false->x.sigs = []))) (λi _=>l.length - (intOf i).toNat)
 case atStart=>exact⟨0,jQ _,rfl,jq (vQ _ _),jq (λj x b hj=>by omega)⟩
 case round=>
  obtain⟨k,hk,rfl,HB,HA⟩:=hrel;have am:=HB.out.size;have aw:=jq (ay.out.trans (HB.out.mono (by omega)));have d0:wr.cell? ⟨w.heap.size,0,none⟩=some (.string a):=(HB.out.cell (by dsimp only; omega)).trans c0';have d1:wr.cell? ⟨w.heap.size,1,none⟩=some (.slice A l.length c):=(HB.out.cell (by dsimp only; omega)).trans c1';have dz:w.heap.size<wr.heap.size:=by omega
  by_cases aa:k<l.length
  ·obtain⟨x,ac⟩:∃ x,l[k]?=some x:=⟨_,aQ aa⟩;obtain⟨bb,eI⟩:∃ bb,B[k]?=some bb:=⟨_,aQ (by rw[ed.out]; omega)⟩;obtain⟨b,o,c',sn,dv,sv,hA,bS,_,av,cA,aL,ax,f0,f1,f2,f3,f4⟩:=eE (HD.out.keep aN aw.out) ac
   cases hA
   obtain⟨As,cs,rfl,_,_⟩:=ah ax;obtain⟨b2,o2,rfl,yq,g0⟩:=Vu (em.out.keep atQ HB.out) (QH ac eI);have HN:Hid (Np.gr a.data.toList x.sigs->(Np.nN x bb=false->x.sigs = [])->∀ (j:Nat) (y:Np.Signed) (b:List UInt8),j<k+1->l[j]?=some y->B[j]?=some b->Np.gr a.data.toList y.sigs/\(Np.nN y b=false->y.sigs = [])):=jq (λh1 h2 j y b hj hy hb=>by
    by_cases e:j=k
    ·subst e; rw[ac] at hy; rw[eI] at hb; cases hy; cases hb; exact⟨h1,h2⟩
    ·exact HA.out j y b (by omega) hy hb)
   have HF:Hid (¬ (Np.gr a.data.toList x.sigs/\(Np.nN x bb=false->x.sigs = []))->r=false):=jq (λh=>by
    rw[<-HR.out]; exact Np.aJ λq=>h (q k _ _ ac eI))
   have bH:(0:Int)<=(k:Int):=by omega
   have bG:(k:Int)<(l.length:Int):=by omega
   have ap:b<wr.heap.size:=by omega
   have ab:b2<wr.heap.size:=by omega
   have nD:∀ (g:bF wr) (p:Addr),p.block<wr.heap.size->g.w.cell? p=wr.cell? p:=λg p h=>g.cell p h;obtain⟨bf,yr⟩:∃ bf,Np.yes (Np.gr a.data.toList x.sigs)=bf:=⟨_,rfl⟩;have sS:=jq yr;have bT:∀ g:bF wr,Calls prog 187 #[.slice As x.sigs.length cs,.string a] g.w λe w'=>e = .returned (.bool bf)/\Below g.w.heap.size g.w w':=λg=>by
    rw[<-yr];exact ayQ a _ x.sigs g.w ((ax.keep el (g.below.mono (by omega))).more fx (by have:=g.size; omega))
   have HC:=jq bT;obtain⟨ow,how⟩:∃ ow,Np.nN x bb=ow:=⟨_,rfl⟩;have gm:=jq how;rw[how] at g0;clear ac eI av aL ax yr bT how f0 f1 f2 f3
   cases bf with
   | false=>
    have HX:Hid (r=false):=jq (HF.out λh=>by have:=Np.bM h.1; rw[sS.out] at this; cases this);go_wp2_with fail;refine fe (by kernel_rfl) (by kernel_rfl) ?_
    repeat (go_big_quiet_step ((go_at_call 187; exact Calls.grow_of (HC.out _))))
    refine wpQuiet_nil ?_;rintro _ ⟨g,rfl⟩;go_wp2_with fail;go_ret;exact⟨ae HX.out.symm,aw.out.trans (g.below.mono (by omega))⟩
   | true=>
    have LV:Hid (Np.gr a.data.toList x.sigs):=jq (Np.fz.1 sS.out)
    cases ow with
    | true=>
     have HX:=jq (HN.out LV.out (λh=>by rw[gm.out] at h; cases h));go_wp2_with fail;refine fe (by kernel_rfl) (by kernel_rfl) ?_
     repeat (go_big_quiet_step ((go_at_call 187; exact Calls.grow_of (HC.out _))))
     refine wpQuiet_nil ?_;rintro _ ⟨g,rfl⟩;go_wp2_with fail;go_roundw
     case rel=>exact⟨k+1,by omega,by go_num,jq (HB.out.trans (g.below.mono (by omega))),jq HX.out⟩
     case measure=>simp[intOf] <;> omega
    | false=>
     obtain⟨N,hN⟩:∃ N,x.sigs.length=N:=⟨_,rfl⟩;have iO:=jq hN;rw[hN] at f4 HC;clear hN;by_cases h0:N=0
     ·have HX:=jq (HN.out LV.out (λ_=>rQ (iO.out.trans h0)));subst h0;go_wp2_with fail;refine fe (by kernel_rfl) (by kernel_rfl) ?_
      repeat (go_big_quiet_step ((go_at_call 187; exact Calls.grow_of (HC.out _))))
      refine wpQuiet_nil ?_;rintro _ ⟨g,rfl⟩;go_wp2_with fail;go_roundw
      case rel=>exact⟨k+1,by omega,by go_num,jq (HB.out.trans (g.below.mono (by omega))),jq HX.out⟩
      case measure=>simp[intOf] <;> omega
     ·have HX:Hid (r=false):=jq (HF.out λh=>h0 (by have:=h.2 gm.out; rw[this] at iO; exact iO.out.symm));have hp:decide ((0:Int)<(N:Int))=true:=by simp; omega
      have hp2:decide (0<N)=true:=by simp; omega
      clear h0;go_wp2_with fail;refine fe (by kernel_rfl) (by kernel_rfl) ?_
      repeat (go_big_quiet_step ((go_at_call 187; exact Calls.grow_of (HC.out _))))
      refine wpQuiet_nil ?_;rintro _ ⟨g,rfl⟩;go_wp2_with fail;go_ret;exact⟨ae HX.out.symm,aw.out.trans (g.below.mono (by omega))⟩
  ·go_wp2_with fail;go_ret;refine⟨ae ?_,aw.out⟩;rw[<-HR.out];exact (Np.bM λi x b hx hb=>HA.out i x b (by have:=(cQ.1 hx).1; omega) hx hb).symm
theorem aCK{z:Np.Zone}(bV:z.sets.length<=20000):Np.RZoneOk z↔((((Np.eN z=true/\Np.ApexH z.apex z.sets)/\Np.AN z.sets)/\Np.pX z.sets (Np.dT z))/\Np.zz z.apex z.sets (Np.dT z)):=by
 constructor
 ·intro h;refine⟨⟨⟨⟨h.right,h.start,h.server,h.fits⟩,λk x hx p h0 hp he=>?_⟩,h.cuts⟩,λk x b hx hb=>⟨h.form x (gQ hx),λho=>?_⟩⟩
  ·obtain⟨hk,rfl⟩:=cQ.1 hx;obtain⟨bG,rfl⟩:=cQ.1 hp;obtain⟨m,rfl⟩:∃ m,k=m+1:=⟨k - 1,by omega⟩;exact h.three m hk he
  ·obtain⟨h1,h2⟩:=QI.1 ho;exact h.sigs k x b hx hb h1 h2
 ·rintro⟨⟨⟨⟨h1,h2⟩,h3⟩,h4⟩,h5⟩;have bZ:=Np.tr z;refine⟨h1,bV,h2.start,h2.server,h2.fits,λi hi he=>?_,h4,λk x b hx hb jp ht=>(h5 k x b hx hb).2 (QI.2 ⟨jp,ht⟩),λx hx=>?_⟩
  ·exact h3 (i+1) _ (aQ hi) _ (by omega) (aQ (by omega)) he
  ·obtain⟨k,hk,rfl⟩:=nQ.1 hx;exact (h5 k _ _ (aQ hk) (aQ (by omega))).1
theorem ayY(a:ByteArray)(ha:a.size<=140737488355328)(v:Value)(l:List Np.Signed)(bV:l.length<=20000)(w:World)(hd:SlR bC 5 w w.heap.size v l) :
 Calls prog 61 #[.agg #[.string a,v]] w λe w'=>e = .returned (.bool (Np.yes (Np.VZone ⟨a.data.toList,l⟩)))/\Below w.heap.size w w':=by
 obtain⟨r,hr⟩:∃ r,Np.yes (Np.VZone ⟨a.data.toList,l⟩)=r:=⟨_,rfl⟩;rw[hr];have HR:Hid (Np.yes ((((Np.eN ⟨a.data.toList,l⟩=true/\Np.ApexH a.data.toList l)/\Np.AN l)/\Np.pX l (Np.dT ⟨a.data.toList,l⟩))/\Np.zz a.data.toList l (Np.dT ⟨a.data.toList,l⟩))=r):=jq (by
  rw[<-hr,Np.uB (Np.aNK _)]; exact (Np.uB (aCK (z:=⟨a.data.toList,l⟩) bV)).symm)
 have HD:=jq hd;obtain⟨A,c,rfl,aV,bi⟩:=ah hd;clear hr hd;have HW:Hid (∀ o,Below w.heap.size w (w.alloc o)):=jq (λo=>(vQ _ w).alloc (bQ _) _);go_enter func61,ntmps61;go_wp2_with fail;obtain⟨w1,ak⟩:∃ w1,w.alloc (.cells #[.string a,.slice A l.length c] 56)=w1:=⟨_,rfl⟩;have c0:w1.cell? ⟨w.heap.size,0,none⟩=some (.string a):=by rw[<-ak]; simp[go_sem]
 have c1:w1.cell? ⟨w.heap.size,1,none⟩=some (.slice A l.length c):=by rw[<-ak]; simp[go_sem]
 have bL:w1.heap.size=w.heap.size+1:=by rw[<-ak]; simp
 have ay:Hid (Below w.heap.size w w1):=jq (by rw[<-ak]; exact HW.out _);rw[ak];clear ak;refine (axJ a ha _ l bV _ (HD.out.later aN bN ay.out)).mono ?_;rintro e w2 ⟨rfl,ab⟩;have aM:=ab.size;have al:=jq (ay.out.trans (ab.mono (by omega)));replace c0:w2.cell? ⟨w.heap.size,0,none⟩=some (.string a):=(ab.cell (by dsimp only; omega)).trans c0;replace c1:w2.cell? ⟨w.heap.size,1,none⟩=some (.slice A l.length c):=(ab.cell (by dsimp only; omega)).trans c1;clear ab
 cases fq:Np.eN ⟨a.data.toList,l⟩ with
 | false=>
  have HX:Hid (r=false):=jq (by rw[<-HR.out]; exact Np.aJ λh=>by rw[fq] at h; cases h.1.1.1.1);clear fq;go_wp2_with fail;go_ret;exact⟨ae HX.out.symm,al.out⟩
 | true=>
  have gX:=jq fq;have ho:=Np.VZone.inOrder fq;have HO:=jq ho;have qK:=fq;unfold Np.eN at qK;simp only[Bool.and_eq_true] at qK;have HV:Hid (∀ x∈l,Np.aD x.set.name=true):=jq (λx hx=>FL (Np.DT qK.2 x hx));have jK:Hid (∀ x∈l,x.set.name≠[]):=jq ho.name;clear fq qK ho;go_wp2_with fail;refine (ayX a _ l _ (HD.out.later aN bN al.out)).mono ?_;rintro e w3 ⟨rfl,ag⟩;have er:=ag.size;have ar:=jq (al.out.trans (ag.mono (by omega)));replace c0:w3.cell? ⟨w.heap.size,0,none⟩=some (.string a):=(ag.cell (by dsimp only; omega)).trans c0;replace c1:w3.cell? ⟨w.heap.size,1,none⟩=some (.slice A l.length c):=(ag.cell (by dsimp only; omega)).trans c1;clear ag
  cases EJ:Np.yes (Np.ApexH a.data.toList l) with
  | false=>
   have HX:Hid (r=false):=jq (by rw[<-HR.out]; exact Np.aJ λh=>sP EJ h.1.1.1.2);clear EJ;go_wp2_with fail;go_ret;exact⟨ae HX.out.symm,ar.out⟩
  | true=>
   have Uk:=jq (Np.fz.1 EJ);clear EJ;go_wp2_with fail;refine (ayK a _ l bV jK.out _ (HD.out.later aN bN ar.out)).mono ?_;rintro e w4 ⟨rfl,an⟩;have gC:=an.size;have bq:=jq (ar.out.trans (an.mono (by omega)));replace c0:w4.cell? ⟨w.heap.size,0,none⟩=some (.string a):=(an.cell (by dsimp only; omega)).trans c0;replace c1:w4.cell? ⟨w.heap.size,1,none⟩=some (.slice A l.length c):=(an.cell (by dsimp only; omega)).trans c1;clear an
   cases EK:Np.yes (Np.AN l) with
   | false=>
    have HX:Hid (r=false):=jq (by rw[<-HR.out]; exact Np.aJ λh=>sP EK h.1.1.2);clear EK;go_wp2_with fail;go_ret;exact⟨ae HX.out.symm,bq.out⟩
   | true=>
    have Ul:=jq (Np.fz.1 EK);clear EK;go_wp2_with fail;refine (awZ a _ l bV HO.out HV.out _ (HD.out.later aN bN bq.out)).mono ?_;rintro e w5 ⟨rfl,aF⟩;have me:=aF.size;have cS:=jq (bq.out.trans (aF.mono (by omega)));replace c0:w5.cell? ⟨w.heap.size,0,none⟩=some (.string a):=(aF.cell (by dsimp only; omega)).trans c0;replace c1:w5.cell? ⟨w.heap.size,1,none⟩=some (.slice A l.length c):=(aF.cell (by dsimp only; omega)).trans c1;clear aF
    cases EL:Np.yes (Np.pX l (Np.dT ⟨a.data.toList,l⟩)) with
    | false=>
     have HX:Hid (r=false):=jq (by rw[<-HR.out]; exact Np.aJ λh=>sP EL h.1.2);clear EL;go_wp2_with fail;go_ret;exact⟨ae HX.out.symm,cS.out⟩
    | true=>
     have He:=jq (Np.fz.1 EL);clear EL;go_wp2_with fail;refine (awQ a _ l bV HO.out HV.out _ (HD.out.later aN bN cS.out)).mono ?_;rintro e w6 ⟨rfl,aU⟩;have il:=aU.size;have ca:=jq (cS.out.trans (aU.mono (by omega)));replace c0:w6.cell? ⟨w.heap.size,0,none⟩=some (.string a):=(aU.cell (by dsimp only; omega)).trans c0;replace c1:w6.cell? ⟨w.heap.size,1,none⟩=some (.slice A l.length c):=(aU.cell (by dsimp only; omega)).trans c1;clear aU
     cases sf:Np.yes (Np.zz a.data.toList l (Np.dT ⟨a.data.toList,l⟩)) with
     | false=>
      have HX:Hid (r=false):=jq (by rw[<-HR.out]; exact Np.aJ λh=>sP sf h.2);clear sf;go_wp2_with fail;go_ret;exact⟨ae HX.out.symm,ca.out⟩
     | true=>
      have Hf:=jq (Np.fz.1 sf);clear sf;go_wp2_with fail;go_ret;exact⟨ae (by rw[<-HR.out]; exact (Np.bM ⟨⟨⟨⟨gX.out,Uk.out⟩,Ul.out⟩,He.out⟩,Hf.out⟩).symm),ca.out⟩
end
end Go.Proofs.YtbfbobfbgabjiaaGreatDoor
