/- No condition. -/
import Derived.Test.YtadhigmjilijcaaGreatDoorH10
import Derived.Test.YtadhigmjilijcaaGreatDoorH11
import Derived.Test.YtadhigmjilijcaaGreatDoorH12
set_option linter.all false
set_option maxRecDepth 100000
set_option maxHeartbeats 8000000
namespace Go.Proofs.YtadhigmjilijcaaGreatDoor
open Go.Proofs.Tryz
section
open Go.RowKit
def oY(w:World)(B:Nat)(xs:List Value):Prop:=∀ j x,xs[j]?=some x->w.cell? ⟨B,j,none⟩=some x/\w.frozen? ⟨B,j,none⟩=false
theorem oY.keep{w w':World}{B n:Nat}{xs:List Value}(h:oY w B xs)(hb:Below n w w')(hB:B<n):oY w' B xs:=λj x hx=>by
 obtain⟨h3,h4⟩:=h j x hx;exact⟨(hb.cell (p:=⟨B,j,none⟩) hB).trans h3,(hb.frozen (p:=⟨B,j,none⟩) hB).trans h4⟩
theorem oY.store{w:World}{B:Nat}{xs:List Value}(h:oY w B xs){k:Nat}(hk:k<xs.length)(u:Value):oY (w.setCell ⟨B,k,none⟩ u) B (xs.set k u):=λj x hx=>by
 rw[List.getElem?_set] at hx;by_cases uZ:k=j
 ·subst uZ;rw[QbQ rfl,QbQ hk] at hx
  cases hx
  obtain⟨h3,h4⟩:=h k _ (aQ hk);exact⟨by simp[World.cell?_setCell_same,h3],(World.frozen?_setCell _ _ _ _).trans h4⟩
 ·rw[Qc uZ] at hx;obtain⟨h3,h4⟩:=h j x hx;exact⟨by rw[xQ _ _ _ _ (by simp<;>omega)];exact h3,(World.frozen?_setCell _ _ _ _).trans h4⟩
def BV(_:World)(_:Nat)(e:List Value)(x:Bool):Prop:=e = [.bool x]
theorem blQ:dR BV:=λ_ _ _ _ _ h _=>h
theorem oY.slr{w:World}{B:Nat}{xs:List Bool}(h:oY w B (xs.map Value.bool))(hB:B<w.heap.size)(hl:xs.length<=140737488355328):SlR BV 1 w w.heap.size (.slice (some ⟨B,0,none⟩) xs.length xs.length) xs:=
 ⟨_,_,rfl,bQ _,hl,λj x hx=>by
  obtain⟨h3,_⟩:=h j (.bool x) (by rw[List.getElem?_map,hx];rfl);refine⟨B,0,[.bool x],rfl,hB,rfl,λi v hv=>?_,rfl⟩
  match i,hv with
  | 0,hv=>cases hv;simpa using h3⟩
theorem alQ{w:World}{B n c:Nat}{A:Option Addr}{xs:List Bool}(h:SlR BV 1 w B (.slice A n c) xs){k:Nat}{x:Bool}(hx:xs[k]?=some x):∃ (b o:Nat),A=some ⟨b,o,none⟩/\b<B/\w.cell? ⟨b,o+k,none⟩=some (.bool x):=by
 obtain⟨A',c',hv,hc,_,he⟩:=h;simp only[Value.slice.injEq] at hv;obtain⟨rfl,_,_⟩:=hv;obtain⟨b,o,e,rfl,hb,_,hce,rfl⟩:=he k x hx;exact⟨b,o,rfl,hb,by have:=hce 0 _ rfl;simpa using this⟩
theorem bcY(n j:Nat)(hj:j<n):(madeCells #[Value.bool false] n)[j]?=some (.bool false):=by
 unfold madeCells;simp[hj,Nat.mod_one]
theorem Tryz.infoBoolZ:(prog.info? 4).map (λi=>(i.zero,i.size,i.bytes))=some (some (.bool false),1,1):=by kernel_rfl
theorem bdJ(n:Nat)(hn:n<=20000)(w:World):(Instr.makeSlice 172 (.int .i64 n) (.int .i64 n)).run prog w = .ok (.slice (some ⟨w.heap.size,0,none⟩) n n) (w.alloc (.cells (madeCells #[Value.bool false] n) 4)):=by
 obtain⟨i,hi,hp⟩:=Option.map_eq_some_iff.1 Tryz.infoBoolZ;simp only[Prod.mk.injEq] at hp;obtain⟨hz,hs,hb⟩:=hp
 have:=run_make (P:=prog) w 172 4 i (.bool false) underlying172 hi hz .i64 .i64 n n (by omega) (Int.le_refl _) (by rw[hb];omega) (by omega)
 rw[hs] at this;simpa [Value.cells] using this
def Np.oH(x:Np.Signed)(b:List UInt8):Bool:=b == []||(x.set.type != 2&&x.set.type != 1)
def Np.nT(l:List Np.Signed)(B:List (List UInt8)):List Bool:=(l.zip B).map λp=>Np.oH p.1 p.2
theorem Ua{l:List Np.Signed}{B:List (List UInt8)}{k:Nat}{x:Np.Signed}{b:List UInt8}(hx:l[k]?=some x)(hb:B[k]?=some b):(Np.nT l B)[k]?=some (Np.oH x b):=by
 unfold Np.nT;rw[List.getElem?_map,(List.getElem?_zip_eq_some (z:=(x,b))).2 ⟨hx,hb⟩];rfl
theorem bpQ(a:ByteArray)(v:Value)(l:List Np.Signed)(dJ:l.length<=20000)(ho:Np.InOrder ⟨a.data.toList,l⟩)(hv:∀ x∈l,Np.ai x.set.name=true)(w:World)(hd:SlR az 5 w w.heap.size v l) :
 Calls prog 136 #[.agg #[.string a,v]] w (yB BV 1 w (Np.nT l (Np.eT ⟨a.data.toList,l⟩))):=by
 obtain⟨B,hB⟩:=aaK (Np.eT ⟨a.data.toList,l⟩);have j8:B.length=l.length:=by rw[<-hB];exact Np.uH _
 have HB':=jq hB;have dP:=jq j8;have uq:Hid ((Np.nT l B).length=l.length):=jq (by unfold Np.nT;rw[List.length_map,List.length_zip,j8,Nat.min_self]);have HD:=jq hd;have HO:=jq ho;have HV:=jq hv;obtain⟨A,c,rfl,aR,cP⟩:=ba hd;rw[hB];clear hd ho hv hB j8;have HW:=blW w;go_enter func136,ntmps136;go_wp2_with fail;refine (Un a _ l dJ HO.out HV.out _ (HD.out.later ax aK (HW.out _))).mono ?_;rintro e w1 ⟨bv,rfl,eF,av⟩;have eH:w.heap.size<w1.heap.size:=by have:=av.size;simp at this;omega
 have c1':w1.cell? ⟨w.heap.size,1,none⟩=some (.slice A l.length c):=by rw[av.cell (by simp)];go_simp
 have ay:=jq ((HW.out _).trans (av.mono (by simp)));obtain⟨A2,c2,rfl,cH,ei⟩:=ba eF;rw[HB'.out] at cH ei eF |-;rw[dP.out] at cH ei eF |-;have aJ:=jq eF;clear av eF;have fd:=bdJ l.length dJ;have HZ:Hid (∀ j,j<l.length->(madeCells #[Value.bool false] l.length)[j]?=some (.bool false)):=jq (λj hj=>bcY _ _ hj);generalize madeCells #[Value.bool false] l.length=Z at fd HZ;go_wp2_with fail;obtain⟨Bs,qj⟩:=aaK w1.heap.size;obtain⟨w2,ar⟩:=aaK (w1.alloc (.cells Z 4));have ae:Below Bs w1 w2:=by rw[<-ar,<-qj];exact blAl
 have bL:Bs<w2.heap.size:=by rw[<-ar];simp;omega
 have fO:Hid (oY w2 Bs (((Np.nT l B).take 0).map Value.bool++List.replicate (l.length - 0) (Value.bool false))):=jq (λj x hx=>by
  rw[List.take_zero,List.map_nil,List.nil_append,Nat.sub_zero,List.getElem?_replicate] at hx;split at hx
  ·rename_i hj
   cases hx
   refine⟨?_,?_⟩
   ·rw[<-ar,<-qj];simp[go_sem];exact HZ.out j hj
   ·rw[<-ar,<-qj];simp[go_sem]
  ·cases hx)
 have am:=jq ae;rw[ar,qj];clear ar ae fd HZ;go_loopw [5] (λi wr=>∃ k:Nat,k<=l.length/\i = .int .i64 k/\Hid (Below Bs w1 wr)/\Bs<wr.heap.size/\Hid (oY wr Bs (((Np.nT l B).take k).map Value.bool++List.replicate (l.length - k) (Value.bool false)))) (λi _=>l.length - (intOf i).toNat)
 case atStart=>exact⟨0,jQ _,rfl,am,bL,fO⟩
 case round=>
  obtain⟨k,hk,rfl,HB,xd,HR⟩:=hrel;have d1:wr.cell? ⟨w.heap.size,1,none⟩=some (.slice A l.length c):=aaQ HB.out c1';have aD:Hid (Below w.heap.size w wr):=aaZ ay HB.out;have gO:w.heap.size<wr.heap.size:=by omega
  by_cases ag:k<l.length
  ·obtain⟨x,aF⟩:∃ x,l[k]?=some x:=⟨_,aQ ag⟩;obtain⟨bb,fp⟩:∃ bb,B[k]?=some bb:=⟨_,aQ (by rw[dP.out];omega)⟩;obtain⟨b,o,c',sn,dv,sv,hA,cX,_,aP,fK,aV,aZ,f0,f1,f2,f3,f4⟩:=dN (HD.out.keep ax aD.out) aF
   cases hA
   obtain⟨b2,o2,sb,rfl,zy,qO,La,g0⟩:=uc ((aJ.out.keep jp (HB.out.abQ))) fp;have mB:=jq qO;have df:=kNN k;have dg:(k:Int)<(l.length:Int):=by omega
   have av:b<wr.heap.size:=by omega
   have ey:Hid (∀ q,Np.oH x bb=q->∀ W,oY W Bs (((Np.nT l B).take k).map Value.bool++List.replicate (l.length - k) (Value.bool false))->oY (W.setCell ⟨Bs,k,none⟩ (.bool q)) Bs (((Np.nT l B).take (k+1)).map Value.bool++List.replicate (l.length - (k+1)) (Value.bool false))):=jq (λq hq W hW=>by
    obtain⟨hko,he⟩:=cQ.1 (Ua aF fp);have h1:=hW.store (k:=k) (by rw[List.length_append,List.length_map,List.length_take,List.length_replicate,uq.out];omega) (.bool q);have h2:(((Np.nT l B).take k).map Value.bool++List.replicate (l.length - k) (Value.bool false)).set k (Value.bool q)=((Np.nT l B).take (k+1)).map Value.bool++List.replicate (l.length - (k+1)) (Value.bool false):=by
     rw[show l.length - k=(l.length - (k+1))+1 by omega,List.replicate_succ,List.set_append_right _ _ (by rw[List.length_map,List.length_take];omega),List.length_map,List.length_take,uq.out,show k - min k l.length=0 by omega,List.set_cons_zero,fQ hko,he,hq,List.map_append,List.append_assoc];rfl
    rw[h2] at h1;exact h1)
   obtain⟨jJ,uT⟩:=HR.out k (Value.bool false) (by rw[oQ (by rw[List.length_map,List.length_take];omega),List.length_map,List.length_take,uq.out,show k - min k l.length=0 by omega,List.getElem?_replicate,QbQ (by omega)]);obtain⟨ty,bm⟩:=aaK x.set.type;have ED:Hid (∀ q,(bb == []||(ty != 2&&ty != 1))=q->Np.oH x bb=q):=jq (λq h=>by unfold Np.oH;rw[bm];exact h);rw[bm] at f1;clear aF fp aP qO aV aZ bm f2 f3 f4;by_cases cG:bb = []
   ·obtain rfl:sb=⟨#[]⟩:=iV (by rw[mB.out,cG]);have HX:=jq (ey.out true (ED.out true (by simp[cG])));clear cG;go_wp2_with fail;go_roundw
    case rel=>exact⟨k+1,by omega,by go_num,jq (HB.out.setCell (by simp) _),by simpa using xd,jq (HX.out _ HR.out)⟩
    ·simp[intOf]<;>omega
   ·have zF:(sb.toList == [])=false:=by rw[dQ,mB.out];simpa using cG
    by_cases h2:ty=2
    ·have HX:=jq (ey.out false (ED.out false (by simp[cG,h2])));subst h2;clear cG;go_wp2_with fail;go_roundw
     case rel=>exact⟨k+1,by omega,by go_num,jq (HB.out.setCell (by simp) _),by simpa using xd,jq (HX.out _ HR.out)⟩
     ·simp[intOf]<;>omega
    ·by_cases h1:ty=1
     ·have HX:=jq (ey.out false (ED.out false (by simp[cG,h1])));subst h1;clear cG;go_wp2_with fail;go_roundw
      case rel=>exact⟨k+1,by omega,by go_num,jq (HB.out.setCell (by simp) _),by simpa using xd,jq (HX.out _ HR.out)⟩
      ·simp[intOf]<;>omega
     ·have HX:=jq (ey.out true (ED.out true (by simp[h1,h2])));have t1:(ty != 2)=true:=by simpa using h2
      have t2:(ty != 1)=true:=by simpa using h1
      clear cG h1 h2;go_wp2_with fail;go_roundw
      case rel=>exact⟨k+1,by omega,by go_num,jq (HB.out.setCell (by simp) _),by simpa using xd,jq (HX.out _ HR.out)⟩
      ·simp[intOf]<;>omega
  ·have HE:Hid (SlR BV 1 wr wr.heap.size (.slice (some ⟨Bs,0,none⟩) l.length l.length) (Np.nT l B)):=jq (by
    have h1:=HR.out;rw[kQ (by rw[uq.out];omega),show l.length - k=0 by omega,List.replicate_zero,List.append_nil] at h1;have h2:=h1.slr xd (by rw[uq.out];omega);rw[uq.out] at h2;exact h2)
   go_wp2_with fail;go_ret;exact⟨_,rfl,HE.out,aD.out⟩
theorem Ub{x:Np.Signed}{b:List UInt8} : (Np.oH x b=false)↔(b≠[]/\(x.set.type=2\/x.set.type=1)):=by
 unfold Np.oH;by_cases h0:b = []<;>by_cases h2:x.set.type=2<;>by_cases h1:x.set.type=1<;>simp[h0,h2,h1]
def Np.AH(a:List UInt8)(l:List Np.Signed)(B:List (List UInt8)):Prop:=∀ (k:Nat) (x:Np.Signed) (b:List UInt8),l[k]?=some x->B[k]?=some b->Np.gB a x.sigs/\(Np.oH x b=false->x.sigs = [])
theorem boQ(a:ByteArray)(v:Value)(l:List Np.Signed)(dJ:l.length<=20000)(ho:Np.InOrder ⟨a.data.toList,l⟩)(hv:∀ x∈l,Np.ai x.set.name=true)(w:World)(hd:SlR az 5 w w.heap.size v l) :
 Calls prog 68 #[.agg #[.string a,v]] w (aCX w.heap.size w (.bool (Np.yes (Np.AH a.data.toList l (Np.eT ⟨a.data.toList,l⟩))))):=by
 obtain⟨B,hB⟩:=aaK (Np.eT ⟨a.data.toList,l⟩);have j8:B.length=l.length:=by rw[<-hB];exact Np.uH _
 rw[hB];obtain⟨r,hr⟩:=aaK (Np.yes (Np.AH a.data.toList l B));rw[hr];have HR:=jq hr;have HB':=jq hB;have dP:=jq j8;have uq:Hid ((Np.nT l B).length=l.length):=jq (by unfold Np.nT;rw[List.length_map,List.length_zip,j8,Nat.min_self]);have HD:=jq hd;have HO:=jq ho;have HV:=jq hv;obtain⟨A,c,rfl,aR,cP⟩:=ba hd;clear hd ho hv hB j8 hr;have HW:=blW w;go_enter func68,ntmps68;go_wp2_with fail;refine (bpQ a _ l dJ HO.out HV.out _ (HD.out.later ax aK (HW.out _))).mono ?_;rintro e w1 ⟨bv,rfl,eF,av⟩;have eH:w.heap.size<w1.heap.size:=by have:=av.size;simp at this;omega
 have c0':w1.cell? ⟨w.heap.size,0,none⟩=some (.string a):=by rw[av.cell (by simp)];go_simp
 have c1':w1.cell? ⟨w.heap.size,1,none⟩=some (.slice A l.length c):=by rw[av.cell (by simp)];go_simp
 have ay:=jq ((HW.out _).trans (av.mono (by simp)));obtain⟨A2,c2,rfl,cH,ei⟩:=ba eF;rw[HB'.out] at cH ei eF |-;rw[uq.out] at cH ei eF |-;have aJ:=jq eF;clear av eF;go_wp2_with fail;go_loopw [4] (λi wr=>∃ k:Nat,k<=l.length/\i = .int .i64 k/\Hid (Below w1.heap.size w1 wr)/\Hid (∀ (j:Nat) (x:Np.Signed) (b:List UInt8),j<k->l[j]?=some x->B[j]?=some b->Np.gB a.data.toList x.sigs/\(Np.oH x b=false->x.sigs = []))) (λi _=>l.length - (intOf i).toNat)
 case atStart=>exact⟨0,jQ _,rfl,jq (vQ _ _),jq (λj x b hj=>by omega)⟩
 case round=>
  obtain⟨k,hk,rfl,HB,HA⟩:=hrel;have aB:=HB.out.size;have aD:=aaZ ay HB.out;have d0:wr.cell? ⟨w.heap.size,0,none⟩=some (.string a):=aaQ HB.out c0';have d1:wr.cell? ⟨w.heap.size,1,none⟩=some (.slice A l.length c):=aaQ HB.out c1';have gO:w.heap.size<wr.heap.size:=by omega
  by_cases ag:k<l.length
  ·obtain⟨x,aF⟩:∃ x,l[k]?=some x:=⟨_,aQ ag⟩;obtain⟨bb,fp⟩:∃ bb,B[k]?=some bb:=⟨_,aQ (by rw[dP.out];omega)⟩;obtain⟨b,o,c',sn,dv,sv,hA,cX,_,aP,fK,aV,aZ,f0,f1,f2,f3,f4⟩:=dN (HD.out.keep ax aD.out) aF
   cases hA
   obtain⟨As,cs,rfl,_,_⟩:=ba aZ;obtain⟨b2,o2,rfl,zy,g0⟩:=alQ (aJ.out.keep blQ HB.out) (Ua aF fp);have HN:Hid (Np.gB a.data.toList x.sigs->(Np.oH x bb=false->x.sigs = [])->∀ (j:Nat) (y:Np.Signed) (b:List UInt8),j<k+1->l[j]?=some y->B[j]?=some b->Np.gB a.data.toList y.sigs/\(Np.oH y b=false->y.sigs = [])):=jq (λh1 h2 j y b hj hy hb=>by
    by_cases e:j=k
    ·subst e;rw[aF] at hy;rw[fp] at hb;cases hy;cases hb;exact⟨h1,h2⟩
    ·exact HA.out j y b (by omega) hy hb)
   have HF:Hid (¬ (Np.gB a.data.toList x.sigs/\(Np.oH x bb=false->x.sigs = []))->r=false):=jq (λh=>by
    rw[<-HR.out];exact Np.eX λq=>h (q k _ _ aF fp))
   have df:=kNN k;have dg:(k:Int)<(l.length:Int):=by omega
   have av:b<wr.heap.size:=by omega
   have ae:b2<wr.heap.size:=by omega
   have qC:∀ (g:ci wr) (p:Addr),p.block<wr.heap.size->g.w.cell? p=wr.cell? p:=λg p h=>g.cell p h;obtain⟨bf,tu⟩:=aaK (Np.yes (Np.gB a.data.toList x.sigs));have Nf:=jq tu;have bw:∀ g:ci wr,Calls prog 137 #[.slice As x.sigs.length cs,.string a] g.w λe w'=>e = .returned (.bool bf)/\Below g.w.heap.size g.w w':=λg=>by
    rw[<-tu];exact bpK a _ x.sigs g.w ((aZ.keep dG (g.below.abQ)).more el (by have:=g.size;omega))
   have HC:=jq bw;obtain⟨ow,how⟩:=aaK (Np.oH x bb);have ur:=jq how;rw[how] at g0;clear aF fp aP aV aZ tu bw how f0 f1 f2 f3
   cases bf with
   | false=>
    have HX:Hid (r=false):=jq (HF.out λh=>by have:=Np.gY h.1;rw[Nf.out] at this;cases this);go_wp2_with fail;refine adK ?_
    repeat (go_big_quiet_step ((go_at_call 137;exact Calls.grow_of (HC.out _))))
    refine wpQuiet_nil ?_;rintro _ ⟨g,rfl⟩;go_wp2_with fail;go_ret;exact⟨aj HX.out.symm,aD.out.trans (g.below.abQ)⟩
   | true=>
    have NG:Hid (Np.gB a.data.toList x.sigs):=jq (Np.kw.1 Nf.out)
    cases ow with
    | true=>
     have HX:=jq (HN.out NG.out (λh=>by rw[ur.out] at h;cases h));go_wp2_with fail;refine adK ?_
     repeat (go_big_quiet_step ((go_at_call 137;exact Calls.grow_of (HC.out _))))
     refine wpQuiet_nil ?_;rintro _ ⟨g,rfl⟩;go_wp2_with fail;go_roundw
     case rel=>exact⟨k+1,by omega,by go_num,aaZ HB g.below,jq HX.out⟩
     ·simp[intOf]<;>omega
    | false=>
     obtain⟨N,hN⟩:=aaK x.sigs.length;have nX:=jq hN;rw[hN] at f4 HC;clear hN;by_cases h0:N=0
     ·have HX:=jq (HN.out NG.out (λ_=>rQ (nX.out.trans h0)));subst h0;go_wp2_with fail;refine adK ?_
      repeat (go_big_quiet_step ((go_at_call 137;exact Calls.grow_of (HC.out _))))
      refine wpQuiet_nil ?_;rintro _ ⟨g,rfl⟩;go_wp2_with fail;go_roundw
      case rel=>exact⟨k+1,by omega,by go_num,aaZ HB g.below,jq HX.out⟩
      ·simp[intOf]<;>omega
     ·have HX:Hid (r=false):=jq (HF.out λh=>h0 (by have:=h.2 ur.out;rw[this] at nX;exact nX.out.symm));have hp:decide ((0:Int)<(N:Int))=true:=by simp;omega
      have KR:decide (0<N)=true:=by simp;omega
      clear h0;go_wp2_with fail;refine adK ?_
      repeat (go_big_quiet_step ((go_at_call 137;exact Calls.grow_of (HC.out _))))
      refine wpQuiet_nil ?_;rintro _ ⟨g,rfl⟩;go_wp2_with fail;go_ret;exact⟨aj HX.out.symm,aD.out.trans (g.below.abQ)⟩
  ·go_wp2_with fail;go_ret;refine⟨aj ?_,aD.out⟩;rw[<-HR.out];exact (Np.gY λi x b hx hb=>HA.out i x b (by have:=(cQ.1 hx).1;omega) hx hb).symm
end
namespace Np
theorem JE{known:List Signed}{n:List UInt8}{t:Int}{s:Signed}(h:fS known n t=some s):s∈known/\s.set.name=n/\s.set.type=t/\cx s≠[]:=by
 unfold fS at h;have h1:=List.find?_some h;simp at h1;exact⟨List.mem_of_find?_eq_some h,h1.1.1,h1.1.2,h1.2⟩
def aeJ(known:List Signed)(q:oh):Prop:=QOk q.1 q.2/\∀ s∈known,¬ (s.set.name=q.1/\s.set.type=q.2/\cx s≠[])
structure VOk(known:List Signed)(v:Verd)(e:Int):Prop where
 none:e≠0->v=⟨0,([],0),[]⟩
 kinds:e=0->v.kind=1\/v.kind=2\/v.kind=3
 quest:v.kind≠3->v.q=([],0)
 needs:v.kind=3->aeJ known v.q/\v.sets = []
theorem bNX{known:List Signed}{n:List UInt8}{t:Int}{s:Signed}(h:s∈AC known n t):s∈known:=by
 unfold AC at h
 cases hf:(ups n).findSome? λa=>(fS known (eR a) t).bind λs=>(known.find? λp=>cx p == cx s&&GJ p.set (cx s) n a).map λp=>[s,p] with
 | none=>rw[hf] at h;simp at h
 | some l=>
  rw[hf] at h;obtain⟨a,_,ha⟩:=List.exists_of_findSome?_eq_some hf;obtain⟨x,hx,hb⟩:=Option.bind_eq_some_iff.1 ha;obtain⟨p,hp,rfl⟩:=Option.map_eq_some_iff.1 hb;simp only[Option.getD_some,List.mem_cons,Qh,or_false] at h;rcases h with rfl | rfl
  ·exact (JE hx).1
  ·exact List.mem_of_find?_eq_some hp
theorem arY{known:List Signed}{n:List UInt8}{t:Int}{s:Signed}(h:s∈xa known n t):s∈known:=by
 unfold xa at h
 cases hf:((AE n known []).mergeSort λa b=>decide (fU b<=fU a)).findSome? λz=>
  if zj z n t ((sD known z).map (·.set))=(5,0)\/zj z n t ((sD known z).map (·.set))=(6,0) then some (sD known z) else none with
 | none=>rw[hf] at h;simp at h
 | some l=>
  rw[hf] at h;obtain⟨z,_,hz⟩:=List.exists_of_findSome?_eq_some hf;split at hz
  ·cases hz;exact (List.mem_filter.1 h).1
  ·cases hz
theorem TV{known:List Signed}{t:Int} : ∀ (k:Nat) (n:List UInt8) {s:Signed},Found.set s∈lx known t k n->s∈known
 | k,n,s,h=>by
   unfold lx at h;split at h
   ·rename_i x hc;simp at h;subst h;exact (JE hc).1
   ·split at h
    ·unfold yl at h;split at h
     ·simp at h;exact bNX h
     ·split at h
      ·simp at h;exact arY h
      ·simp at h
    ·rename_i a ha;have ha':fS known n 3=some a:=by
      unfold rG at ha;split at ha
      ·cases ha
      ·exact ha
     cases k with
     | zero=>simp at h
     | succ k=>
      simp only[List.mem_cons,Found.set.injEq] at h;rcases h with rfl | h
      ·exact (JE ha').1
      ·exact TV k _ h
structure LinkOk(known:List Signed)(anchor:DSet)(t d:Int)(s:Signed):Prop where
 mem:s∈known
 under:bA s.set.name (cx s)=true
 path:(pC known anchor (cx s) t d).2.2=0
 sign:gw s (cx s) (pC known anchor (cx s) t d).1 t d=true

end Np
end Go.Proofs.YtadhigmjilijcaaGreatDoor
