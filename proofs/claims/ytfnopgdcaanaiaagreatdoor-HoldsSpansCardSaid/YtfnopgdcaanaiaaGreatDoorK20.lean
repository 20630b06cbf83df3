/- Parts of the proof. No condition. -/
import Derived.Test.YtfnopgdcaanaiaaGreatDoorK12
import Derived.Test.YtfnopgdcaanaiaaGreatDoorK13
import Derived.Test.YtfnopgdcaanaiaaGreatDoorK15
import Derived.Test.YtfnopgdcaanaiaaGreatDoorK17
set_option linter.all false
set_option maxRecDepth 100000
set_option maxHeartbeats 8000000
namespace Go.Proofs.YtfnopgdcaanaiaaGreatDoor
open Go.Proofs.Tryz
section
open Go.RowKit
def nH(w:World)(B:Nat)(xs:List Value):Prop:=∀ j x,xs[j]?=some x->w.cell? ⟨B,j,none⟩=some x/\w.frozen? ⟨B,j,none⟩=false
theorem nH.keep{w w':World}{B n:Nat}{xs:List Value}(h:nH w B xs)(hb:Below n w w')(hB:B<n):nH w' B xs:=λj x hx=>by
 obtain⟨h3,h4⟩:=h j x hx;exact⟨(hb.cell (p:=⟨B,j,none⟩) hB).trans h3,(hb.frozen (p:=⟨B,j,none⟩) hB).trans h4⟩
theorem nH.store{w:World}{B:Nat}{xs:List Value}(h:nH w B xs){k:Nat}(hk:k<xs.length)(u:Value):nH (w.setCell ⟨B,k,none⟩ u) B (xs.set k u):=λj x hx=>by
 rw[List.getElem?_set] at hx;by_cases BG:k=j
 ·subst BG;rw[Qb rfl,Qb hk] at hx
  cases hx
  obtain⟨h3,h4⟩:=h k _ (aQ hk);exact⟨by simp[World.cell?_setCell_same,h3],(World.frozen?_setCell _ _ _ _).trans h4⟩
 ·rw[Qc BG] at hx;obtain⟨h3,h4⟩:=h j x hx;exact⟨by rw[xQ _ _ _ _ (by simp <;> omega)];exact h3,(World.frozen?_setCell _ _ _ _).trans h4⟩
def Ai(_:World)(_:Nat)(e:List Value)(x:Bool):Prop:=e = [.bool x]
theorem amK:dl Ai:=λ_ _ _ _ _ h _=>h
theorem nH.slr{w:World}{B:Nat}{xs:List Bool}(h:nH w B (xs.map Value.bool))(hB:B<w.heap.size)(hl:xs.length<=140737488355328):SlR Ai 1 w w.heap.size (.slice (some ⟨B,0,none⟩) xs.length xs.length) xs:=
 ⟨_,_,rfl,bQ _,hl,λj x hx=>by
  obtain⟨h3,_⟩:=h j (.bool x) (by rw[List.getElem?_map,hx];rfl);refine⟨B,0,[.bool x],rfl,hB,rfl,λi v hv=>?_,rfl⟩
  match i,hv with
  | 0,hv=>cases hv;simpa using h3⟩
theorem U3{w:World}{B n c:Nat}{A:Option Addr}{xs:List Bool}(h:SlR Ai 1 w B (.slice A n c) xs){k:Nat}{x:Bool}(hx:xs[k]?=some x):∃ (b o:Nat),A=some ⟨b,o,none⟩/\b<B/\w.cell? ⟨b,o+k,none⟩=some (.bool x):=by
 obtain⟨A',c',hv,hc,_,he⟩:=h;simp only[Value.slice.injEq] at hv;obtain⟨rfl,_,_⟩:=hv;obtain⟨b,o,e,rfl,hb,_,hce,rfl⟩:=he k x hx;exact⟨b,o,rfl,hb,by have:=hce 0 _ rfl;simpa using this⟩
theorem abK(n j:Nat)(hj:j<n):(madeCells #[Value.bool false] n)[j]?=some (.bool false):=by
 unfold madeCells;simp[hj,Nat.mod_one]
theorem Tryz.infoBoolZ:(prog.info? 4).map (λi=>(i.zero,i.size,i.bytes))=some (some (.bool false),1,1):=by kernel_rfl
theorem abX(n:Nat)(hn:n<=20000)(w:World):(Instr.makeSlice 237 (.int .i64 n) (.int .i64 n)).run prog w = .ok (.slice (some ⟨w.heap.size,0,none⟩) n n) (w.alloc (.cells (madeCells #[Value.bool false] n) 4)):=by
 obtain⟨i,hi,hp⟩:=Option.map_eq_some_iff.1 Tryz.infoBoolZ;simp only[Prod.mk.injEq] at hp;obtain⟨hz,hs,hb⟩:=hp
 have:=run_make (P:=prog) w 237 4 i (.bool false) underlying237 hi hz .i64 .i64 n n (by omega) (Int.le_refl _) (by rw[hb];omega) (by omega)
 rw[hs] at this;simpa [Value.cells] using this
def Np.nn(x:Np.Signed)(b:List UInt8):Bool:=b == []||(x.set.type != 2&&x.set.type != 1)
def Np.ml(l:List Np.Signed)(B:List (List UInt8)):List Bool:=(l.zip B).map λp=>Np.nn p.1 p.2
theorem Qe{l:List Np.Signed}{B:List (List UInt8)}{k:Nat}{x:Np.Signed}{b:List UInt8}(hx:l[k]?=some x)(hb:B[k]?=some b):(Np.ml l B)[k]?=some (Np.nn x b):=by
 unfold Np.ml;rw[List.getElem?_map,(List.getElem?_zip_eq_some (z:=(x,b))).2 ⟨hx,hb⟩];rfl
theorem arQ(a:ByteArray)(v:Value)(l:List Np.Signed)(bM:l.length<=20000)(ho:Np.InOrder ⟨a.data.toList,l⟩)(hv:∀ x∈l,Np.aG x.set.name=true)(w:World)(hd:SlR bk 5 w w.heap.size v l) :
 Calls prog 238 #[.agg #[.string a,v]] w (xk Ai 1 w (Np.ml l (Np.dC ⟨a.data.toList,l⟩))):=by
 obtain⟨B,hB⟩:∃ B,Np.dC ⟨a.data.toList,l⟩=B:=⟨_,rfl⟩;have jn:B.length=l.length:=by rw[<-hB];exact Np.s6 _
 have HB':=jq hB;have eX:=jq jn;have ip:Hid ((Np.ml l B).length=l.length):=jq (by unfold Np.ml;rw[List.length_map,List.length_zip,jn,Nat.min_self]);have HD:=jq hd;have HO:=jq ho;have HV:=jq hv;obtain⟨A,c,rfl,bD,bL⟩:=al hd;rw[hB];clear hd ho hv hB jn;have HW:Hid (∀ o,Below w.heap.size w (w.alloc o)):=jq (λo=>(vQ _ w).alloc (bQ _) _);go_enter func238,ntmps238;go_wp2_with fail;refine (QJ a _ l bM HO.out HV.out _ (HD.out.later ba bY (HW.out _))).mono ?_;rintro e w1 ⟨bv,rfl,gR,aw⟩;have dG:w.heap.size<w1.heap.size:=by have:=aw.size;simp at this;omega
 have c1':w1.cell? ⟨w.heap.size,1,none⟩=some (.slice A l.length c):=by rw[aw.cell (by simp)];go_simp
 have ay:=jq ((HW.out _).trans (aw.mono (by simp)));obtain⟨A2,c2,rfl,ew,dF⟩:=al gR;rw[HB'.out] at ew dF gR |-;rw[eX.out] at ew dF gR |-;have lJ:=jq gR;clear aw gR;have fX:=abX l.length bM;have HZ:Hid (∀ j,j<l.length->(madeCells #[Value.bool false] l.length)[j]?=some (.bool false)):=jq (λj hj=>abK _ _ hj);generalize madeCells #[Value.bool false] l.length=Z at fX HZ;go_wp2_with fail;obtain⟨Bs,oS⟩:∃ Bs,w1.heap.size=Bs:=⟨_,rfl⟩;obtain⟨w2,ae⟩:∃ w2,w1.alloc (.cells Z 4)=w2:=⟨_,rfl⟩;have ac:Below Bs w1 w2:=by rw[<-ae,<-oS];exact (vQ _ _).alloc (bQ _) _
 have aM:Bs<w2.heap.size:=by rw[<-ae];simp;omega
 have uG:Hid (nH w2 Bs (((Np.ml l B).take 0).map Value.bool++List.replicate (l.length - 0) (Value.bool false))):=jq (λj x hx=>by
  rw[List.take_zero,List.map_nil,List.nil_append,Nat.sub_zero,List.getElem?_replicate] at hx;split at hx
  ·rename_i hj
   cases hx
   refine⟨?_,?_⟩
   ·rw[<-ae,<-oS];simp[go_sem];exact HZ.out j hj
   ·rw[<-ae,<-oS];simp[go_sem]
  ·cases hx)
 have ak:=jq ac;rw[ae,oS];clear ae ac fX HZ;go_loopw [5] (λi wr=>∃ k:Nat,k<=l.length/\i = .int .i64 k/\Hid (Below Bs w1 wr)/\Bs<wr.heap.size/\Hid (nH wr Bs (((Np.ml l B).take k).map Value.bool++List.replicate (l.length - k) (Value.bool false)))) (λi _=>l.length - (intOf i).toNat)
 case atStart=>exact⟨0,jQ _,rfl,ak,aM,uG⟩
 case round=>
  obtain⟨k,hk,rfl,HB,mI,HR⟩:=hrel;have d1:wr.cell? ⟨w.heap.size,1,none⟩=some (.slice A l.length c):=(HB.out.cell (by dsimp only;omega)).trans c1';have aB:Hid (Below w.heap.size w wr):=jq (ay.out.trans (HB.out.mono (by omega)));have cK:w.heap.size<wr.heap.size:=by omega
  by_cases aa:k<l.length
  ·obtain⟨x,ab⟩:∃ x,l[k]?=some x:=⟨_,aQ aa⟩;obtain⟨bb,dL⟩:∃ bb,B[k]?=some bb:=⟨_,aQ (by rw[eX.out];omega)⟩;obtain⟨b,o,c',sn,dv,sv,hA,bU,_,aF,cx,aV,aR,f0,f1,f2,f3,f4⟩:=eV (HD.out.keep ba aB.out) ab
   cases hA
   obtain⟨b2,o2,sb,rfl,yh,pi,Jj,g0⟩:=qu ((lJ.out.keep nr (HB.out.mono (by omega)))) dL;have eJ:=jq pi;have bX:(0:Int)<=(k:Int):=by omega
   have bW:(k:Int)<(l.length:Int):=by omega
   have aw:b<wr.heap.size:=by omega
   have dI:Hid (∀ q,Np.nn x bb=q->∀ W,nH W Bs (((Np.ml l B).take k).map Value.bool++List.replicate (l.length - k) (Value.bool false))->nH (W.setCell ⟨Bs,k,none⟩ (.bool q)) Bs (((Np.ml l B).take (k+1)).map Value.bool++List.replicate (l.length - (k+1)) (Value.bool false))):=jq (λq hq W hW=>by
    obtain⟨X9,he⟩:=cQ.1 (Qe ab dL);have h1:=hW.store (k:=k) (by rw[List.length_append,List.length_map,List.length_take,List.length_replicate,ip.out];omega) (.bool q);have h2:(((Np.ml l B).take k).map Value.bool++List.replicate (l.length - k) (Value.bool false)).set k (Value.bool q)=((Np.ml l B).take (k+1)).map Value.bool++List.replicate (l.length - (k+1)) (Value.bool false):=by
     rw[show l.length - k=(l.length - (k+1))+1 by omega,List.replicate_succ,List.set_append_right _ _ (by rw[List.length_map,List.length_take];omega),List.length_map,List.length_take,ip.out,show k - min k l.length=0 by omega,List.set_cons_zero,fQ X9,he,hq,List.map_append,List.append_assoc];rfl
    rw[h2] at h1;exact h1)
   obtain⟨gS,kH⟩:=HR.out k (Value.bool false) (by rw[oQ (by rw[List.length_map,List.length_take];omega),List.length_map,List.length_take,ip.out,show k - min k l.length=0 by omega,List.getElem?_replicate,Qb (by omega)]);obtain⟨ty,dX⟩:∃ ty,x.set.type=ty:=⟨_,rfl⟩;have kx:Hid (∀ q,(bb == []||(ty != 2&&ty != 1))=q->Np.nn x bb=q):=jq (λq h=>by unfold Np.nn;rw[dX];exact h);rw[dX] at f1;clear ab dL aF pi aV aR dX f2 f3 f4;by_cases cT:bb = []
   ·obtain rfl:sb=⟨#[]⟩:=lH (by rw[eJ.out,cT]);have HX:=jq (dI.out true (kx.out true (by simp[cT])));clear cT;go_wp2_with fail;go_roundw
    case rel=>exact⟨k+1,by omega,by go_num,jq (HB.out.setCell (by simp) _),by simpa using mI,jq (HX.out _ HR.out)⟩
    case measure=>simp[intOf] <;> omega
   ·have yx:(sb.toList == [])=false:=by rw[dQ,eJ.out];simpa using cT
    by_cases h2:ty=2
    ·have HX:=jq (dI.out false (kx.out false (by simp[cT,h2])));subst h2;clear cT;go_wp2_with fail;go_roundw
     case rel=>exact⟨k+1,by omega,by go_num,jq (HB.out.setCell (by simp) _),by simpa using mI,jq (HX.out _ HR.out)⟩
     case measure=>simp[intOf] <;> omega
    ·by_cases h1:ty=1
     ·have HX:=jq (dI.out false (kx.out false (by simp[cT,h1])));subst h1;clear cT;go_wp2_with fail;go_roundw
      case rel=>exact⟨k+1,by omega,by go_num,jq (HB.out.setCell (by simp) _),by simpa using mI,jq (HX.out _ HR.out)⟩
      case measure=>simp[intOf] <;> omega
     ·have HX:=jq (dI.out true (kx.out true (by simp[h1,h2])));have t1:(ty != 2)=true:=by simpa using h2
      have t2:(ty != 1)=true:=by simpa using h1
      clear cT h1 h2;go_wp2_with fail;go_roundw
      case rel=>exact⟨k+1,by omega,by go_num,jq (HB.out.setCell (by simp) _),by simpa using mI,jq (HX.out _ HR.out)⟩
      case measure=>simp[intOf] <;> omega
  ·have HE:Hid (SlR Ai 1 wr wr.heap.size (.slice (some ⟨Bs,0,none⟩) l.length l.length) (Np.ml l B)):=jq (by
    have h1:=HR.out;rw[kQ (by rw[ip.out];omega),show l.length - k=0 by omega,List.replicate_zero,List.append_nil] at h1;have h2:=h1.slr mI (by rw[ip.out];omega);rw[ip.out] at h2;exact h2)
   go_wp2_with fail;go_ret;exact⟨_,rfl,HE.out,aB.out⟩
theorem Qf{x:Np.Signed}{b:List UInt8} : (Np.nn x b=false)↔(b≠[]/\(x.set.type=2\/x.set.type=1)):=by
 unfold Np.nn;by_cases h0:b = [] <;> by_cases h2:x.set.type=2 <;> by_cases h1:x.set.type=1 <;> simp[h0,h2,h1]
def Np.zp(a:List UInt8)(l:List Np.Signed)(B:List (List UInt8)):Prop:=∀ (k:Nat) (x:Np.Signed) (b:List UInt8),l[k]?=some x->B[k]?=some b->Np.fT a x.sigs/\(Np.nn x b=false->x.sigs = [])
theorem apK(a:ByteArray)(v:Value)(l:List Np.Signed)(bM:l.length<=20000)(ho:Np.InOrder ⟨a.data.toList,l⟩)(hv:∀ x∈l,Np.aG x.set.name=true)(w:World)(hd:SlR bk 5 w w.heap.size v l) :
 Calls prog 163 #[.agg #[.string a,v]] w λe w'=>e = .returned (.bool (Np.yes (Np.zp a.data.toList l (Np.dC ⟨a.data.toList,l⟩))))/\Below w.heap.size w w':=by
 obtain⟨B,hB⟩:∃ B,Np.dC ⟨a.data.toList,l⟩=B:=⟨_,rfl⟩;have jn:B.length=l.length:=by rw[<-hB];exact Np.s6 _
 rw[hB];obtain⟨r,hr⟩:∃ r,Np.yes (Np.zp a.data.toList l B)=r:=⟨_,rfl⟩;rw[hr];have HR:=jq hr;have HB':=jq hB;have eX:=jq jn;have ip:Hid ((Np.ml l B).length=l.length):=jq (by unfold Np.ml;rw[List.length_map,List.length_zip,jn,Nat.min_self]);have HD:=jq hd;have HO:=jq ho;have HV:=jq hv;obtain⟨A,c,rfl,bD,bL⟩:=al hd;clear hd ho hv hB jn hr;have HW:Hid (∀ o,Below w.heap.size w (w.alloc o)):=jq (λo=>(vQ _ w).alloc (bQ _) _);go_enter func163,ntmps163;go_wp2_with fail;refine (arQ a _ l bM HO.out HV.out _ (HD.out.later ba bY (HW.out _))).mono ?_;rintro e w1 ⟨bv,rfl,gR,aw⟩;have dG:w.heap.size<w1.heap.size:=by have:=aw.size;simp at this;omega
 have c0':w1.cell? ⟨w.heap.size,0,none⟩=some (.string a):=by rw[aw.cell (by simp)];go_simp
 have c1':w1.cell? ⟨w.heap.size,1,none⟩=some (.slice A l.length c):=by rw[aw.cell (by simp)];go_simp
 have ay:=jq ((HW.out _).trans (aw.mono (by simp)));obtain⟨A2,c2,rfl,ew,dF⟩:=al gR;rw[HB'.out] at ew dF gR |-;rw[ip.out] at ew dF gR |-;have lJ:=jq gR;clear aw gR;go_wp2_with fail;go_loopw [4] (λi wr=>∃ k:Nat,k<=l.length/\i = .int .i64 k/\Hid (Below w1.heap.size w1 wr)/\Hid (∀ (j:Nat) (x:Np.Signed) (b:List UInt8),j<k->l[j]?=some x->B[j]?=some b->Np.fT a.data.toList x.sigs/\(Np.nn x b=false->x.sigs = []))) (λi _=>l.length - (intOf i).toNat)
 case atStart=>exact⟨0,jQ _,rfl,jq (vQ _ _),jq (λj x b hj=>by omega)⟩
 case round=>
  obtain⟨k,hk,rfl,HB,HA⟩:=hrel;have ap:=HB.out.size;have aB:=jq (ay.out.trans (HB.out.mono (by omega)));have d0:wr.cell? ⟨w.heap.size,0,none⟩=some (.string a):=(HB.out.cell (by dsimp only;omega)).trans c0';have d1:wr.cell? ⟨w.heap.size,1,none⟩=some (.slice A l.length c):=(HB.out.cell (by dsimp only;omega)).trans c1';have cK:w.heap.size<wr.heap.size:=by omega
  by_cases aa:k<l.length
  ·obtain⟨x,ab⟩:∃ x,l[k]?=some x:=⟨_,aQ aa⟩;obtain⟨bb,dL⟩:∃ bb,B[k]?=some bb:=⟨_,aQ (by rw[eX.out];omega)⟩;obtain⟨b,o,c',sn,dv,sv,hA,bU,_,aF,cx,aV,aR,f0,f1,f2,f3,f4⟩:=eV (HD.out.keep ba aB.out) ab
   cases hA
   obtain⟨As,cs,rfl,_,_⟩:=al aR;obtain⟨b2,o2,rfl,yh,g0⟩:=U3 (lJ.out.keep amK HB.out) (Qe ab dL);have HN:Hid (Np.fT a.data.toList x.sigs->(Np.nn x bb=false->x.sigs = [])->∀ (j:Nat) (y:Np.Signed) (b:List UInt8),j<k+1->l[j]?=some y->B[j]?=some b->Np.fT a.data.toList y.sigs/\(Np.nn y b=false->y.sigs = [])):=jq (λh1 h2 j y b hj hy hb=>by
    by_cases e:j=k
    ·subst e;rw[ab] at hy;rw[dL] at hb;cases hy;cases hb;exact⟨h1,h2⟩
    ·exact HA.out j y b (by omega) hy hb)
   have HF:Hid (¬ (Np.fT a.data.toList x.sigs/\(Np.nn x bb=false->x.sigs = []))->r=false):=jq (λh=>by
    rw[<-HR.out];exact Np.aN λq=>h (q k _ _ ab dL))
   have bX:(0:Int)<=(k:Int):=by omega
   have bW:(k:Int)<(l.length:Int):=by omega
   have aw:b<wr.heap.size:=by omega
   have ac:b2<wr.heap.size:=by omega
   have tt:∀ (g:bK wr) (p:Addr),p.block<wr.heap.size->g.w.cell? p=wr.cell? p:=λg p h=>g.cell p h;obtain⟨bf,Iu⟩:∃ bf,Np.yes (Np.fT a.data.toList x.sigs)=bf:=⟨_,rfl⟩;have sG:=jq Iu;have cL:∀ g:bK wr,Calls prog 151 #[.slice As x.sigs.length cs,.string a] g.w λe w'=>e = .returned (.bool bf)/\Below g.w.heap.size g.w w':=λg=>by
    rw[<-Iu];exact arK a _ x.sigs g.w ((aR.keep dH (g.below.mono (by omega))).more fz (by have:=g.size;omega))
   have HC:=jq cL;obtain⟨ow,how⟩:∃ ow,Np.nn x bb=ow:=⟨_,rfl⟩;have fP:=jq how;rw[how] at g0;clear ab dL aF aV aR Iu cL how f0 f1 f2 f3
   cases bf with
   | false=>
    have HX:Hid (r=false):=jq (HF.out λh=>by have:=Np.bO h.1;rw[sG.out] at this;cases this);go_wp2_with fail;refine f9 (by kernel_rfl) (by kernel_rfl) ?_
    repeat (go_big_quiet_step ((go_at_call 151;exact Calls.grow_of (HC.out _))))
    refine wpQuiet_nil ?_;rintro _ ⟨g,rfl⟩;go_wp2_with fail;go_ret;exact⟨ag HX.out.symm,aB.out.trans (g.below.mono (by omega))⟩
   | true=>
    have K3:Hid (Np.fT a.data.toList x.sigs):=jq (Np.fm.1 sG.out)
    cases ow with
    | true=>
     have HX:=jq (HN.out K3.out (λh=>by rw[fP.out] at h;cases h));go_wp2_with fail;refine f9 (by kernel_rfl) (by kernel_rfl) ?_
     repeat (go_big_quiet_step ((go_at_call 151;exact Calls.grow_of (HC.out _))))
     refine wpQuiet_nil ?_;rintro _ ⟨g,rfl⟩;go_wp2_with fail;go_roundw
     case rel=>exact⟨k+1,by omega,by go_num,jq (HB.out.trans (g.below.mono (by omega))),jq HX.out⟩
     case measure=>simp[intOf] <;> omega
    | false=>
     obtain⟨N,hN⟩:∃ N,x.sigs.length=N:=⟨_,rfl⟩;have im:=jq hN;rw[hN] at f4 HC;clear hN;by_cases h0:N=0
     ·have HX:=jq (HN.out K3.out (λ_=>rQ (im.out.trans h0)));subst h0;go_wp2_with fail;refine f9 (by kernel_rfl) (by kernel_rfl) ?_
      repeat (go_big_quiet_step ((go_at_call 151;exact Calls.grow_of (HC.out _))))
      refine wpQuiet_nil ?_;rintro _ ⟨g,rfl⟩;go_wp2_with fail;go_roundw
      case rel=>exact⟨k+1,by omega,by go_num,jq (HB.out.trans (g.below.mono (by omega))),jq HX.out⟩
      case measure=>simp[intOf] <;> omega
     ·have HX:Hid (r=false):=jq (HF.out λh=>h0 (by have:=h.2 fP.out;rw[this] at im;exact im.out.symm));have hp:decide ((0:Int)<(N:Int))=true:=by simp;omega
      have hp2:decide (0<N)=true:=by simp;omega
      clear h0;go_wp2_with fail;refine f9 (by kernel_rfl) (by kernel_rfl) ?_
      repeat (go_big_quiet_step ((go_at_call 151;exact Calls.grow_of (HC.out _))))
      refine wpQuiet_nil ?_;rintro _ ⟨g,rfl⟩;go_wp2_with fail;go_ret;exact⟨ag HX.out.symm,aB.out.trans (g.below.mono (by omega))⟩
  ·go_wp2_with fail;go_ret;refine⟨ag ?_,aB.out⟩;rw[<-HR.out];exact (Np.bO λi x b hx hb=>HA.out i x b (by have:=(cQ.1 hx).1;omega) hx hb).symm
theorem awY{z:Np.Zone}(bM:z.sets.length<=20000):Np.RZoneOk z↔((((Np.eF z=true/\Np.ApexH z.apex z.sets)/\Np.Ar z.sets)/\Np.pt z.sets (Np.dC z))/\Np.zp z.apex z.sets (Np.dC z)):=by
 constructor
 ·intro h;refine⟨⟨⟨⟨h.right,h.start,h.server,h.fits⟩,λk x hx p h0 hp he=>?_⟩,h.cuts⟩,λk x b hx hb=>⟨h.form x (gQ hx),λho=>?_⟩⟩
  ·obtain⟨hk,rfl⟩:=cQ.1 hx;obtain⟨bW,rfl⟩:=cQ.1 hp;obtain⟨m,rfl⟩:∃ m,k=m+1:=⟨k - 1,by omega⟩;exact h.three m hk he
  ·obtain⟨h1,h2⟩:=Qf.1 ho;exact h.sigs k x b hx hb h1 h2
 ·rintro⟨⟨⟨⟨h1,h2⟩,h3⟩,h4⟩,h5⟩;have bC:=Np.s6 z;refine⟨h1,bM,h2.start,h2.server,h2.fits,λi hi he=>?_,h4,λk x b hx hb iS ht=>(h5 k x b hx hb).2 (Qf.2 ⟨iS,ht⟩),λx hx=>?_⟩
  ·exact h3 (i+1) _ (aQ hi) _ (by omega) (aQ (by omega)) he
  ·obtain⟨k,hk,rfl⟩:=nQ.1 hx;exact (h5 k _ _ (aQ hk) (aQ (by omega))).1
theorem asJ(a:ByteArray)(ha:a.size<=140737488355328)(v:Value)(l:List Np.Signed)(bM:l.length<=20000)(w:World)(hd:SlR bk 5 w w.heap.size v l) :
 Calls prog 89 #[.agg #[.string a,v]] w λe w'=>e = .returned (.bool (Np.yes (Np.VZone ⟨a.data.toList,l⟩)))/\Below w.heap.size w w':=by
 obtain⟨r,hr⟩:∃ r,Np.yes (Np.VZone ⟨a.data.toList,l⟩)=r:=⟨_,rfl⟩;rw[hr];have HR:Hid (Np.yes ((((Np.eF ⟨a.data.toList,l⟩=true/\Np.ApexH a.data.toList l)/\Np.Ar l)/\Np.pt l (Np.dC ⟨a.data.toList,l⟩))/\Np.zp a.data.toList l (Np.dC ⟨a.data.toList,l⟩))=r):=jq (by
  rw[<-hr,Np.sB (Np.aHK _)];exact (Np.sB (awY (z:=⟨a.data.toList,l⟩) bM)).symm)
 have HD:=jq hd;obtain⟨A,c,rfl,bD,bL⟩:=al hd;clear hr hd;have HW:Hid (∀ o,Below w.heap.size w (w.alloc o)):=jq (λo=>(vQ _ w).alloc (bQ _) _);go_enter func89,ntmps89;go_wp2_with fail;obtain⟨w1,aj⟩:∃ w1,w.alloc (.cells #[.string a,.slice A l.length c] 44)=w1:=⟨_,rfl⟩;have c0:w1.cell? ⟨w.heap.size,0,none⟩=some (.string a):=by rw[<-aj];simp[go_sem]
 have c1:w1.cell? ⟨w.heap.size,1,none⟩=some (.slice A l.length c):=by rw[<-aj];simp[go_sem]
 have bh:w1.heap.size=w.heap.size+1:=by rw[<-aj];simp
 have ay:Hid (Below w.heap.size w w1):=jq (by rw[<-aj];exact HW.out _);rw[aj];clear aj;refine (aqY a ha _ l bM _ (HD.out.later ba bY ay.out)).mono ?_;rintro e w2 ⟨rfl,ac⟩;have aM:=ac.size;have ak:=jq (ay.out.trans (ac.mono (by omega)));replace c0:w2.cell? ⟨w.heap.size,0,none⟩=some (.string a):=(ac.cell (by dsimp only;omega)).trans c0;replace c1:w2.cell? ⟨w.heap.size,1,none⟩=some (.slice A l.length c):=(ac.cell (by dsimp only;omega)).trans c1;clear ac
 cases ed:Np.eF ⟨a.data.toList,l⟩ with
 | false=>
  have HX:Hid (r=false):=jq (by rw[<-HR.out];exact Np.aN λh=>by rw[ed] at h;cases h.1.1.1.1);clear ed;go_wp2_with fail;go_ret;exact⟨ag HX.out.symm,ak.out⟩
 | true=>
  have fR:=jq ed;have ho:=Np.VZone.inOrder ed;have HO:=jq ho;have qc:=ed;unfold Np.eF at qc;simp only[Bool.and_eq_true] at qc;have HV:Hid (∀ x∈l,Np.aG x.set.name=true):=jq (λx hx=>Fl (Np.DN qc.2 x hx));have ld:Hid (∀ x∈l,x.set.name≠[]):=jq ho.name;clear ed qc ho;go_wp2_with fail;refine (asZ a _ l _ (HD.out.later ba bY ak.out)).mono ?_;rintro e w3 ⟨rfl,am⟩;have dP:=am.size;have az:=jq (ak.out.trans (am.mono (by omega)));replace c0:w3.cell? ⟨w.heap.size,0,none⟩=some (.string a):=(am.cell (by dsimp only;omega)).trans c0;replace c1:w3.cell? ⟨w.heap.size,1,none⟩=some (.slice A l.length c):=(am.cell (by dsimp only;omega)).trans c1;clear am
  cases Et:Np.yes (Np.ApexH a.data.toList l) with
  | false=>
   have HX:Hid (r=false):=jq (by rw[<-HR.out];exact Np.aN λh=>sC Et h.1.1.1.2);clear Et;go_wp2_with fail;go_ret;exact⟨ag HX.out.symm,az.out⟩
  | true=>
   have TK:=jq (Np.fm.1 Et);clear Et;go_wp2_with fail;refine (asQ a _ l bM ld.out _ (HD.out.later ba bY az.out)).mono ?_;rintro e w4 ⟨rfl,ar⟩;have eC:=ar.size;have br:=jq (az.out.trans (ar.mono (by omega)));replace c0:w4.cell? ⟨w.heap.size,0,none⟩=some (.string a):=(ar.cell (by dsimp only;omega)).trans c0;replace c1:w4.cell? ⟨w.heap.size,1,none⟩=some (.slice A l.length c):=(ar.cell (by dsimp only;omega)).trans c1;clear ar
   cases Eu:Np.yes (Np.Ar l) with
   | false=>
    have HX:Hid (r=false):=jq (by rw[<-HR.out];exact Np.aN λh=>sC Eu h.1.1.2);clear Eu;go_wp2_with fail;go_ret;exact⟨ag HX.out.symm,br.out⟩
   | true=>
    have TL:=jq (Np.fm.1 Eu);clear Eu;go_wp2_with fail;refine (apX a _ l bM HO.out HV.out _ (HD.out.later ba bY br.out)).mono ?_;rintro e w5 ⟨rfl,aC⟩;have jB:=aC.size;have cj:=jq (br.out.trans (aC.mono (by omega)));replace c0:w5.cell? ⟨w.heap.size,0,none⟩=some (.string a):=(aC.cell (by dsimp only;omega)).trans c0;replace c1:w5.cell? ⟨w.heap.size,1,none⟩=some (.slice A l.length c):=(aC.cell (by dsimp only;omega)).trans c1;clear aC
    cases Ev:Np.yes (Np.pt l (Np.dC ⟨a.data.toList,l⟩)) with
    | false=>
     have HX:Hid (r=false):=jq (by rw[<-HR.out];exact Np.aN λh=>sC Ev h.1.2);clear Ev;go_wp2_with fail;go_ret;exact⟨ag HX.out.symm,cj.out⟩
    | true=>
     have GQ:=jq (Np.fm.1 Ev);clear Ev;go_wp2_with fail;refine (apK a _ l bM HO.out HV.out _ (HD.out.later ba bY cj.out)).mono ?_;rintro e w6 ⟨rfl,aO⟩;have gI:=aO.size;have dh:=jq (cj.out.trans (aO.mono (by omega)));replace c0:w6.cell? ⟨w.heap.size,0,none⟩=some (.string a):=(aO.cell (by dsimp only;omega)).trans c0;replace c1:w6.cell? ⟨w.heap.size,1,none⟩=some (.slice A l.length c):=(aO.cell (by dsimp only;omega)).trans c1;clear aO
     cases rK:Np.yes (Np.zp a.data.toList l (Np.dC ⟨a.data.toList,l⟩)) with
     | false=>
      have HX:Hid (r=false):=jq (by rw[<-HR.out];exact Np.aN λh=>sC rK h.2);clear rK;go_wp2_with fail;go_ret;exact⟨ag HX.out.symm,dh.out⟩
     | true=>
      have GR:=jq (Np.fm.1 rK);clear rK;go_wp2_with fail;go_ret;exact⟨ag (by rw[<-HR.out];exact (Np.bO ⟨⟨⟨⟨fR.out,TK.out⟩,TL.out⟩,GQ.out⟩,GR.out⟩).symm),dh.out⟩
end
end Go.Proofs.YtfnopgdcaanaiaaGreatDoor
