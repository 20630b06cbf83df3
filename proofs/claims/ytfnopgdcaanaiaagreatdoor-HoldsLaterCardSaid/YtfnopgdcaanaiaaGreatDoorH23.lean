/- Parts of the proof. No condition. -/
import Derived.Test.YtfnopgdcaanaiaaGreatDoorH13
import Derived.Test.YtfnopgdcaanaiaaGreatDoorH18
import Derived.Test.YtfnopgdcaanaiaaGreatDoorH20
import Derived.Test.YtfnopgdcaanaiaaGreatDoorH21
set_option linter.all false
set_option maxRecDepth 100000
set_option maxHeartbeats 8000000
namespace Go.Proofs.YtfnopgdcaanaiaaGreatDoor
open Go.Proofs.Tryz
section
open Go.RowKit
def mp(w:World)(B:Nat)(xs:List Value):Prop:=∀ j x,xs[j]?=some x->w.cell? ⟨B,j,none⟩=some x/\w.frozen? ⟨B,j,none⟩=false
theorem mp.keep{w w':World}{B n:Nat}{xs:List Value}(h:mp w B xs)(hb:Below n w w')(hB:B<n):mp w' B xs:=λj x hx=>by
 obtain⟨h3,h4⟩:=h j x hx;exact⟨(hb.cell (p:=⟨B,j,none⟩) hB).trans h3,(hb.frozen (p:=⟨B,j,none⟩) hB).trans h4⟩
theorem mp.store{w:World}{B:Nat}{xs:List Value}(h:mp w B xs){k:Nat}(hk:k<xs.length)(u:Value):mp (w.setCell ⟨B,k,none⟩ u) B (xs.set k u):=λj x hx=>by
 rw[List.getElem?_set] at hx;by_cases yB:k=j
 ·subst yB;rw[Qb rfl,Qb hk] at hx
  cases hx
  obtain⟨h3,h4⟩:=h k _ (aQ hk);exact⟨by simp[World.cell?_setCell_same,h3],(World.frozen?_setCell _ _ _ _).trans h4⟩
 ·rw[Qc yB] at hx;obtain⟨h3,h4⟩:=h j x hx;exact⟨by rw[xQ _ _ _ _ (by simp <;> omega)];exact h3,(World.frozen?_setCell _ _ _ _).trans h4⟩
def xw(_:World)(_:Nat)(e:List Value)(x:Bool):Prop:=e = [.bool x]
theorem XG:cY xw:=λ_ _ _ _ _ h _=>h
theorem mp.slr{w:World}{B:Nat}{xs:List Bool}(h:mp w B (xs.map Value.bool))(hB:B<w.heap.size)(hl:xs.length<=140737488355328):SlR xw 1 w w.heap.size (.slice (some ⟨B,0,none⟩) xs.length xs.length) xs:=
 ⟨_,_,rfl,bQ _,hl,λj x hx=>by
  obtain⟨h3,_⟩:=h j (.bool x) (by rw[List.getElem?_map,hx];rfl);refine⟨B,0,[.bool x],rfl,hB,rfl,λi v hv=>?_,rfl⟩
  match i,hv with
  | 0,hv=>cases hv;simpa using h3⟩
theorem Rh{w:World}{B n c:Nat}{A:Option Addr}{xs:List Bool}(h:SlR xw 1 w B (.slice A n c) xs){k:Nat}{x:Bool}(hx:xs[k]?=some x):∃ (b o:Nat),A=some ⟨b,o,none⟩/\b<B/\w.cell? ⟨b,o+k,none⟩=some (.bool x):=by
 obtain⟨A',c',hv,hc,_,he⟩:=h;simp only[Value.slice.injEq] at hv;obtain⟨rfl,_,_⟩:=hv;obtain⟨b,o,e,rfl,hb,_,hce,rfl⟩:=he k x hx;exact⟨b,o,rfl,hb,by have:=hce 0 _ rfl;simpa using this⟩
theorem Wt(n j:Nat)(hj:j<n):(madeCells #[Value.bool false] n)[j]?=some (.bool false):=by
 unfold madeCells;simp[hj,Nat.mod_one]
theorem Tryz.infoBoolZ:(prog.info? 4).map (λi=>(i.zero,i.size,i.bytes))=some (some (.bool false),1,1):=by kernel_rfl
theorem Wu(n:Nat)(hn:n<=20000)(w:World):(Instr.makeSlice 237 (.int .i64 n) (.int .i64 n)).run prog w = .ok (.slice (some ⟨w.heap.size,0,none⟩) n n) (w.alloc (.cells (madeCells #[Value.bool false] n) 4)):=by
 obtain⟨i,hi,hp⟩:=Option.map_eq_some_iff.1 Tryz.infoBoolZ;simp only[Prod.mk.injEq] at hp;obtain⟨hz,hs,hb⟩:=hp
 have:=run_make (P:=prog) w 237 4 i (.bool false) underlying237 hi hz .i64 .i64 n n (by omega) (Int.le_refl _) (by rw[hb];omega) (by omega)
 rw[hs] at this;simpa [Value.cells] using this
def Np.l7(x:Np.Signed)(b:List UInt8):Bool:=b == []||(x.set.type != 2&&x.set.type != 1)
def Np.lw(l:List Np.Signed)(B:List (List UInt8)):List Bool:=(l.zip B).map λp=>Np.l7 p.1 p.2
theorem ME{l:List Np.Signed}{B:List (List UInt8)}{k:Nat}{x:Np.Signed}{b:List UInt8}(hx:l[k]?=some x)(hb:B[k]?=some b):(Np.lw l B)[k]?=some (Np.l7 x b):=by
 unfold Np.lw;rw[List.getElem?_map,(List.getElem?_zip_eq_some (z:=(x,b))).2 ⟨hx,hb⟩];rfl
theorem Yc(a:ByteArray)(v:Value)(l:List Np.Signed)(bI:l.length<=20000)(ho:Np.InOrder ⟨a.data.toList,l⟩)(hv:∀ x∈l,Np.aC x.set.name=true)(w:World)(hd:SlR bh 5 w w.heap.size v l) :
 Calls prog 238 #[.agg #[.string a,v]] w (tY xw 1 w (Np.lw l (Np.dl ⟨a.data.toList,l⟩))):=by
 obtain⟨B,hB⟩:∃ B,Np.dl ⟨a.data.toList,l⟩=B:=⟨_,rfl⟩;have iK:B.length=l.length:=by rw[<-hB];exact Np.qK _
 have HB':=jq hB;have cX:=jq iK;have kS:Hid ((Np.lw l B).length=l.length):=jq (by unfold Np.lw;rw[List.length_map,List.length_zip,iK,Nat.min_self]);have HD:=jq hd;have HO:=jq ho;have HV:=jq hv;obtain⟨A,c,rfl,bw,bT⟩:=al hd;rw[hB];clear hd ho hv hB iK;have HW:Hid (∀ o,Below w.heap.size w (w.alloc o)):=jq (λo=>(vQ _ w).alloc (bQ _) _);go_enter func238,ntmps238;go_wp2_with fail;refine (M9 a _ l bI HO.out HV.out _ (HD.out.later aX cj (HW.out _))).mono ?_;rintro e w1 ⟨bv,rfl,gk,az⟩;have du:w.heap.size<w1.heap.size:=by have:=az.size;simp at this;omega
 have c1':w1.cell? ⟨w.heap.size,1,none⟩=some (.slice A l.length c):=by rw[az.cell (by simp)];go_simp
 have aq:=jq ((HW.out _).trans (az.mono (by simp)));obtain⟨A2,c2,rfl,eG,dI⟩:=al gk;rw[HB'.out] at eG dI gk |-;rw[cX.out] at eG dI gk |-;have mR:=jq gk;clear az gk;have fC:=Wu l.length bI;have HZ:Hid (∀ j,j<l.length->(madeCells #[Value.bool false] l.length)[j]?=some (.bool false)):=jq (λj hj=>Wt _ _ hj);generalize madeCells #[Value.bool false] l.length=Z at fC HZ;go_wp2_with fail;obtain⟨Bs,nn⟩:∃ Bs,w1.heap.size=Bs:=⟨_,rfl⟩;obtain⟨w2,ai⟩:∃ w2,w1.alloc (.cells Z 4)=w2:=⟨_,rfl⟩;have ac:Below Bs w1 w2:=by rw[<-ai,<-nn];exact (vQ _ _).alloc (bQ _) _
 have aJ:Bs<w2.heap.size:=by rw[<-ai];simp;omega
 have wR:Hid (mp w2 Bs (((Np.lw l B).take 0).map Value.bool++List.replicate (l.length - 0) (Value.bool false))):=jq (λj x hx=>by
  rw[List.take_zero,List.map_nil,List.nil_append,Nat.sub_zero,List.getElem?_replicate] at hx;split at hx
  ·rename_i hj
   cases hx
   refine⟨?_,?_⟩
   ·rw[<-ai,<-nn];simp[go_sem];exact HZ.out j hj
   ·rw[<-ai,<-nn];simp[go_sem]
  ·cases hx)
 have aj:=jq ac;rw[ai,nn];clear ai ac fC HZ;go_loopw [5] (λi wr=>∃ k:Nat,k<=l.length/\i = .int .i64 k/\Hid (Below Bs w1 wr)/\Bs<wr.heap.size/\Hid (mp wr Bs (((Np.lw l B).take k).map Value.bool++List.replicate (l.length - k) (Value.bool false)))) (λi _=>l.length - (intOf i).toNat)
 case atStart=>exact⟨0,jQ _,rfl,aj,aJ,wR⟩
 case round=>
  obtain⟨k,hk,rfl,HB,sX,HR⟩:=hrel;have d1:wr.cell? ⟨w.heap.size,1,none⟩=some (.slice A l.length c):=(HB.out.cell (by dsimp only;omega)).trans c1';have aw:Hid (Below w.heap.size w wr):=jq (aq.out.trans (HB.out.mono (by omega)));have cZ:w.heap.size<wr.heap.size:=by omega
  by_cases aa:k<l.length
  ·obtain⟨x,ab⟩:∃ x,l[k]?=some x:=⟨_,aQ aa⟩;obtain⟨bb,dm⟩:∃ bb,B[k]?=some bb:=⟨_,aQ (by rw[cX.out];omega)⟩;obtain⟨b,o,c',sn,dv,sv,hA,bJ,_,ay,cw,aW,aM,f0,f1,f2,f3,f4⟩:=eq (HD.out.keep aX aw.out) ab
   cases hA
   obtain⟨b2,o2,sb,rfl,uN,nK,FQ,g0⟩:=oT ((mR.out.keep mc (HB.out.mono (by omega)))) dm;have eP:=jq nK;have bO:(0:Int)<=(k:Int):=by omega
   have bM:(k:Int)<(l.length:Int):=by omega
   have az:b<wr.heap.size:=by omega
   have cJ:Hid (∀ q,Np.l7 x bb=q->∀ W,mp W Bs (((Np.lw l B).take k).map Value.bool++List.replicate (l.length - k) (Value.bool false))->mp (W.setCell ⟨Bs,k,none⟩ (.bool q)) Bs (((Np.lw l B).take (k+1)).map Value.bool++List.replicate (l.length - (k+1)) (Value.bool false))):=jq (λq hq W hW=>by
    obtain⟨Um,he⟩:=cQ.1 (ME ab dm);have h1:=hW.store (k:=k) (by rw[List.length_append,List.length_map,List.length_take,List.length_replicate,kS.out];omega) (.bool q);have h2:(((Np.lw l B).take k).map Value.bool++List.replicate (l.length - k) (Value.bool false)).set k (Value.bool q)=((Np.lw l B).take (k+1)).map Value.bool++List.replicate (l.length - (k+1)) (Value.bool false):=by
     rw[show l.length - k=(l.length - (k+1))+1 by omega,List.replicate_succ,List.set_append_right _ _ (by rw[List.length_map,List.length_take];omega),List.length_map,List.length_take,kS.out,show k - min k l.length=0 by omega,List.set_cons_zero,fQ Um,he,hq,List.map_append,List.append_assoc];rfl
    rw[h2] at h1;exact h1)
   obtain⟨fP,jZ⟩:=HR.out k (Value.bool false) (by rw[oQ (by rw[List.length_map,List.length_take];omega),List.length_map,List.length_take,kS.out,show k - min k l.length=0 by omega,List.getElem?_replicate,Qb (by omega)]);obtain⟨ty,eK⟩:∃ ty,x.set.type=ty:=⟨_,rfl⟩;have kR:Hid (∀ q,(bb == []||(ty != 2&&ty != 1))=q->Np.l7 x bb=q):=jq (λq h=>by unfold Np.l7;rw[eK];exact h);rw[eK] at f1;clear ab dm ay nK aW aM eK f2 f3 f4;by_cases cT:bb = []
   ·obtain rfl:sb=⟨#[]⟩:=kL (by rw[eP.out,cT]);have HX:=jq (cJ.out true (kR.out true (by simp[cT])));clear cT;go_wp2_with fail;go_roundw
    case rel=>exact⟨k+1,by omega,by go_num,jq (HB.out.setCell (by simp) _),by simpa using sX,jq (HX.out _ HR.out)⟩
    case measure=>simp[intOf] <;> omega
   ·have vj:(sb.toList == [])=false:=by rw[dQ,eP.out];simpa using cT
    by_cases h2:ty=2
    ·have HX:=jq (cJ.out false (kR.out false (by simp[cT,h2])));subst h2;clear cT;go_wp2_with fail;go_roundw
     case rel=>exact⟨k+1,by omega,by go_num,jq (HB.out.setCell (by simp) _),by simpa using sX,jq (HX.out _ HR.out)⟩
     case measure=>simp[intOf] <;> omega
    ·by_cases h1:ty=1
     ·have HX:=jq (cJ.out false (kR.out false (by simp[cT,h1])));subst h1;clear cT;go_wp2_with fail;go_roundw
      case rel=>exact⟨k+1,by omega,by go_num,jq (HB.out.setCell (by simp) _),by simpa using sX,jq (HX.out _ HR.out)⟩
      case measure=>simp[intOf] <;> omega
     ·have HX:=jq (cJ.out true (kR.out true (by simp[h1,h2])));have t1:(ty != 2)=true:=by simpa using h2
      have t2:(ty != 1)=true:=by simpa using h1
      clear cT h1 h2;go_wp2_with fail;go_roundw
      case rel=>exact⟨k+1,by omega,by go_num,jq (HB.out.setCell (by simp) _),by simpa using sX,jq (HX.out _ HR.out)⟩
      case measure=>simp[intOf] <;> omega
  ·have HE:Hid (SlR xw 1 wr wr.heap.size (.slice (some ⟨Bs,0,none⟩) l.length l.length) (Np.lw l B)):=jq (by
    have h1:=HR.out;rw[kQ (by rw[kS.out];omega),show l.length - k=0 by omega,List.replicate_zero,List.append_nil] at h1;have h2:=h1.slr sX (by rw[kS.out];omega);rw[kS.out] at h2;exact h2)
   go_wp2_with fail;go_ret;exact⟨_,rfl,HE.out,aw.out⟩
theorem MF{x:Np.Signed}{b:List UInt8} : (Np.l7 x b=false)↔(b≠[]/\(x.set.type=2\/x.set.type=1)):=by
 unfold Np.l7;by_cases h0:b = [] <;> by_cases h2:x.set.type=2 <;> by_cases h1:x.set.type=1 <;> simp[h0,h2,h1]
def Np.vX(a:List UInt8)(l:List Np.Signed)(B:List (List UInt8)):Prop:=∀ (k:Nat) (x:Np.Signed) (b:List UInt8),l[k]?=some x->B[k]?=some b->Np.fw a x.sigs/\(Np.l7 x b=false->x.sigs = [])
theorem X3(a:ByteArray)(v:Value)(l:List Np.Signed)(bI:l.length<=20000)(ho:Np.InOrder ⟨a.data.toList,l⟩)(hv:∀ x∈l,Np.aC x.set.name=true)(w:World)(hd:SlR bh 5 w w.heap.size v l) :
 Calls prog 163 #[.agg #[.string a,v]] w λe w'=>e = .returned (.bool (Np.yes (Np.vX a.data.toList l (Np.dl ⟨a.data.toList,l⟩))))/\Below w.heap.size w w':=by
 obtain⟨B,hB⟩:∃ B,Np.dl ⟨a.data.toList,l⟩=B:=⟨_,rfl⟩;have iK:B.length=l.length:=by rw[<-hB];exact Np.qK _
 rw[hB];obtain⟨r,hr⟩:∃ r,Np.yes (Np.vX a.data.toList l B)=r:=⟨_,rfl⟩;rw[hr];have HR:=jq hr;have HB':=jq hB;have cX:=jq iK;have kS:Hid ((Np.lw l B).length=l.length):=jq (by unfold Np.lw;rw[List.length_map,List.length_zip,iK,Nat.min_self]);have HD:=jq hd;have HO:=jq ho;have HV:=jq hv;obtain⟨A,c,rfl,bw,bT⟩:=al hd;clear hd ho hv hB iK hr;have HW:Hid (∀ o,Below w.heap.size w (w.alloc o)):=jq (λo=>(vQ _ w).alloc (bQ _) _);go_enter func163,ntmps163;go_wp2_with fail;refine (Yc a _ l bI HO.out HV.out _ (HD.out.later aX cj (HW.out _))).mono ?_;rintro e w1 ⟨bv,rfl,gk,az⟩;have du:w.heap.size<w1.heap.size:=by have:=az.size;simp at this;omega
 have c0':w1.cell? ⟨w.heap.size,0,none⟩=some (.string a):=by rw[az.cell (by simp)];go_simp
 have c1':w1.cell? ⟨w.heap.size,1,none⟩=some (.slice A l.length c):=by rw[az.cell (by simp)];go_simp
 have aq:=jq ((HW.out _).trans (az.mono (by simp)));obtain⟨A2,c2,rfl,eG,dI⟩:=al gk;rw[HB'.out] at eG dI gk |-;rw[kS.out] at eG dI gk |-;have mR:=jq gk;clear az gk;go_wp2_with fail;go_loopw [4] (λi wr=>∃ k:Nat,k<=l.length/\i = .int .i64 k/\Hid (Below w1.heap.size w1 wr)/\Hid (∀ (j:Nat) (x:Np.Signed) (b:List UInt8),j<k->l[j]?=some x->B[j]?=some b->Np.fw a.data.toList x.sigs/\(Np.l7 x b=false->x.sigs = []))) (λi _=>l.length - (intOf i).toNat)
 case atStart=>exact⟨0,jQ _,rfl,jq (vQ _ _),jq (λj x b hj=>by omega)⟩
 case round=>
  obtain⟨k,hk,rfl,HB,HA⟩:=hrel;have an:=HB.out.size;have aw:=jq (aq.out.trans (HB.out.mono (by omega)));have d0:wr.cell? ⟨w.heap.size,0,none⟩=some (.string a):=(HB.out.cell (by dsimp only;omega)).trans c0';have d1:wr.cell? ⟨w.heap.size,1,none⟩=some (.slice A l.length c):=(HB.out.cell (by dsimp only;omega)).trans c1';have cZ:w.heap.size<wr.heap.size:=by omega
  by_cases aa:k<l.length
  ·obtain⟨x,ab⟩:∃ x,l[k]?=some x:=⟨_,aQ aa⟩;obtain⟨bb,dm⟩:∃ bb,B[k]?=some bb:=⟨_,aQ (by rw[cX.out];omega)⟩;obtain⟨b,o,c',sn,dv,sv,hA,bJ,_,ay,cw,aW,aM,f0,f1,f2,f3,f4⟩:=eq (HD.out.keep aX aw.out) ab
   cases hA
   obtain⟨As,cs,rfl,_,_⟩:=al aM;obtain⟨b2,o2,rfl,uN,g0⟩:=Rh (mR.out.keep XG HB.out) (ME ab dm);have HN:Hid (Np.fw a.data.toList x.sigs->(Np.l7 x bb=false->x.sigs = [])->∀ (j:Nat) (y:Np.Signed) (b:List UInt8),j<k+1->l[j]?=some y->B[j]?=some b->Np.fw a.data.toList y.sigs/\(Np.l7 y b=false->y.sigs = [])):=jq (λh1 h2 j y b hj hy hb=>by
    by_cases e:j=k
    ·subst e;rw[ab] at hy;rw[dm] at hb;cases hy;cases hb;exact⟨h1,h2⟩
    ·exact HA.out j y b (by omega) hy hb)
   have HF:Hid (¬ (Np.fw a.data.toList x.sigs/\(Np.l7 x bb=false->x.sigs = []))->r=false):=jq (λh=>by
    rw[<-HR.out];exact Np.aF λq=>h (q k _ _ ab dm))
   have bO:(0:Int)<=(k:Int):=by omega
   have bM:(k:Int)<(l.length:Int):=by omega
   have az:b<wr.heap.size:=by omega
   have ac:b2<wr.heap.size:=by omega
   have k9:∀ (g:bq wr) (p:Addr),p.block<wr.heap.size->g.w.cell? p=wr.cell? p:=λg p h=>g.cell p h;obtain⟨bf,E8⟩:∃ bf,Np.yes (Np.fw a.data.toList x.sigs)=bf:=⟨_,rfl⟩;have qp:=jq E8;have cC:∀ g:bq wr,Calls prog 151 #[.slice As x.sigs.length cs,.string a] g.w λe w'=>e = .returned (.bool bf)/\Below g.w.heap.size g.w w':=λg=>by
    rw[<-E8];exact Yg a _ x.sigs g.w ((aM.keep ep (g.below.mono (by omega))).more gp (by have:=g.size;omega))
   have HC:=jq cC;obtain⟨ow,how⟩:∃ ow,Np.l7 x bb=ow:=⟨_,rfl⟩;have gu:=jq how;rw[how] at g0;clear ab dm ay aW aM E8 cC how f0 f1 f2 f3
   cases bf with
   | false=>
    have HX:Hid (r=false):=jq (HF.out λh=>by have:=Np.bB h.1;rw[qp.out] at this;cases this);go_wp2_with fail;refine fG (by kernel_rfl) (by kernel_rfl) ?_
    repeat (go_big_quiet_step ((go_at_call 151;exact Calls.grow_of (HC.out _))))
    refine wpQuiet_nil ?_;rintro _ ⟨g,rfl⟩;go_wp2_with fail;go_ret;exact⟨ae HX.out.symm,aw.out.trans (g.below.mono (by omega))⟩
   | true=>
    have H7:Hid (Np.fw a.data.toList x.sigs):=jq (Np.ew.1 qp.out)
    cases ow with
    | true=>
     have HX:=jq (HN.out H7.out (λh=>by rw[gu.out] at h;cases h));go_wp2_with fail;refine fG (by kernel_rfl) (by kernel_rfl) ?_
     repeat (go_big_quiet_step ((go_at_call 151;exact Calls.grow_of (HC.out _))))
     refine wpQuiet_nil ?_;rintro _ ⟨g,rfl⟩;go_wp2_with fail;go_roundw
     case rel=>exact⟨k+1,by omega,by go_num,jq (HB.out.trans (g.below.mono (by omega))),jq HX.out⟩
     case measure=>simp[intOf] <;> omega
    | false=>
     obtain⟨N,hN⟩:∃ N,x.sigs.length=N:=⟨_,rfl⟩;have gO:=jq hN;rw[hN] at f4 HC;clear hN;by_cases h0:N=0
     ·have HX:=jq (HN.out H7.out (λ_=>rQ (gO.out.trans h0)));subst h0;go_wp2_with fail;refine fG (by kernel_rfl) (by kernel_rfl) ?_
      repeat (go_big_quiet_step ((go_at_call 151;exact Calls.grow_of (HC.out _))))
      refine wpQuiet_nil ?_;rintro _ ⟨g,rfl⟩;go_wp2_with fail;go_roundw
      case rel=>exact⟨k+1,by omega,by go_num,jq (HB.out.trans (g.below.mono (by omega))),jq HX.out⟩
      case measure=>simp[intOf] <;> omega
     ·have HX:Hid (r=false):=jq (HF.out λh=>h0 (by have:=h.2 gu.out;rw[this] at gO;exact gO.out.symm));have hp:decide ((0:Int)<(N:Int))=true:=by simp;omega
      have hp2:decide (0<N)=true:=by simp;omega
      clear h0;go_wp2_with fail;refine fG (by kernel_rfl) (by kernel_rfl) ?_
      repeat (go_big_quiet_step ((go_at_call 151;exact Calls.grow_of (HC.out _))))
      refine wpQuiet_nil ?_;rintro _ ⟨g,rfl⟩;go_wp2_with fail;go_ret;exact⟨ae HX.out.symm,aw.out.trans (g.below.mono (by omega))⟩
  ·go_wp2_with fail;go_ret;refine⟨ae ?_,aw.out⟩;rw[<-HR.out];exact (Np.bB λi x b hx hb=>HA.out i x b (by have:=(cQ.1 hx).1;omega) hx hb).symm
theorem YH{z:Np.Zone}(bI:z.sets.length<=20000):Np.RZoneOk z↔((((Np.dZ z=true/\Np.ApexH z.apex z.sets)/\Np.xC z.sets)/\Np.nS z.sets (Np.dl z))/\Np.vX z.apex z.sets (Np.dl z)):=by
 constructor
 ·intro h;refine⟨⟨⟨⟨h.right,h.start,h.server,h.fits⟩,λk x hx p h0 hp he=>?_⟩,h.cuts⟩,λk x b hx hb=>⟨h.form x (gQ hx),λho=>?_⟩⟩
  ·obtain⟨hk,rfl⟩:=cQ.1 hx;obtain⟨bM,rfl⟩:=cQ.1 hp;obtain⟨m,rfl⟩:∃ m,k=m+1:=⟨k - 1,by omega⟩;exact h.three m hk he
  ·obtain⟨h1,h2⟩:=MF.1 ho;exact h.sigs k x b hx hb h1 h2
 ·rintro⟨⟨⟨⟨h1,h2⟩,h3⟩,h4⟩,h5⟩;have bG:=Np.qK z;refine⟨h1,bI,h2.start,h2.server,h2.fits,λi hi he=>?_,h4,λk x b hx hb il ht=>(h5 k x b hx hb).2 (MF.2 ⟨il,ht⟩),λx hx=>?_⟩
  ·exact h3 (i+1) _ (aQ hi) _ (by omega) (aQ (by omega)) he
  ·obtain⟨k,hk,rfl⟩:=nQ.1 hx;exact (h5 k _ _ (aQ hk) (aQ (by omega))).1
theorem Ym(a:ByteArray)(ha:a.size<=140737488355328)(v:Value)(l:List Np.Signed)(bI:l.length<=20000)(w:World)(hd:SlR bh 5 w w.heap.size v l) :
 Calls prog 89 #[.agg #[.string a,v]] w λe w'=>e = .returned (.bool (Np.yes (Np.VZone ⟨a.data.toList,l⟩)))/\Below w.heap.size w w':=by
 obtain⟨r,hr⟩:∃ r,Np.yes (Np.VZone ⟨a.data.toList,l⟩)=r:=⟨_,rfl⟩;rw[hr];have HR:Hid (Np.yes ((((Np.dZ ⟨a.data.toList,l⟩=true/\Np.ApexH a.data.toList l)/\Np.xC l)/\Np.nS l (Np.dl ⟨a.data.toList,l⟩))/\Np.vX a.data.toList l (Np.dl ⟨a.data.toList,l⟩))=r):=jq (by
  rw[<-hr,Np.ql (Np.ZL _)];exact (Np.ql (YH (z:=⟨a.data.toList,l⟩) bI)).symm)
 have HD:=jq hd;obtain⟨A,c,rfl,bw,bT⟩:=al hd;clear hr hd;have HW:Hid (∀ o,Below w.heap.size w (w.alloc o)):=jq (λo=>(vQ _ w).alloc (bQ _) _);go_enter func89,ntmps89;go_wp2_with fail;obtain⟨w1,ah⟩:∃ w1,w.alloc (.cells #[.string a,.slice A l.length c] 44)=w1:=⟨_,rfl⟩;have c0:w1.cell? ⟨w.heap.size,0,none⟩=some (.string a):=by rw[<-ah];simp[go_sem]
 have c1:w1.cell? ⟨w.heap.size,1,none⟩=some (.slice A l.length c):=by rw[<-ah];simp[go_sem]
 have bj:w1.heap.size=w.heap.size+1:=by rw[<-ah];simp
 have aq:Hid (Below w.heap.size w w1):=jq (by rw[<-ah];exact HW.out _);rw[ah];clear ah;refine (Yb a ha _ l bI _ (HD.out.later aX cj aq.out)).mono ?_;rintro e w2 ⟨rfl,ac⟩;have aJ:=ac.size;have aj:=jq (aq.out.trans (ac.mono (by omega)));replace c0:w2.cell? ⟨w.heap.size,0,none⟩=some (.string a):=(ac.cell (by dsimp only;omega)).trans c0;replace c1:w2.cell? ⟨w.heap.size,1,none⟩=some (.slice A l.length c):=(ac.cell (by dsimp only;omega)).trans c1;clear ac
 cases dJ:Np.dZ ⟨a.data.toList,l⟩ with
 | false=>
  have HX:Hid (r=false):=jq (by rw[<-HR.out];exact Np.aF λh=>by rw[dJ] at h;cases h.1.1.1.1);clear dJ;go_wp2_with fail;go_ret;exact⟨ae HX.out.symm,aj.out⟩
 | true=>
  have ie:=jq dJ;have ho:=Np.VZone.inOrder dJ;have HO:=jq ho;have oD:=dJ;unfold Np.dZ at oD;simp only[Bool.and_eq_true] at oD;have HV:Hid (∀ x∈l,Np.aC x.set.name=true):=jq (λx hx=>CH (Np.AZ oD.2 x hx));have ko:Hid (∀ x∈l,x.set.name≠[]):=jq ho.name;clear dJ oD ho;go_wp2_with fail;refine (Yl a _ l _ (HD.out.later aX cj aj.out)).mono ?_;rintro e w3 ⟨rfl,ak⟩;have el:=ak.size;have ar:=jq (aj.out.trans (ak.mono (by omega)));replace c0:w3.cell? ⟨w.heap.size,0,none⟩=some (.string a):=(ak.cell (by dsimp only;omega)).trans c0;replace c1:w3.cell? ⟨w.heap.size,1,none⟩=some (.slice A l.length c):=(ak.cell (by dsimp only;omega)).trans c1;clear ak
  cases BO:Np.yes (Np.ApexH a.data.toList l) with
  | false=>
   have HX:Hid (r=false):=jq (by rw[<-HR.out];exact Np.aF λh=>qm BO h.1.1.1.2);clear BO;go_wp2_with fail;go_ret;exact⟨ae HX.out.symm,ar.out⟩
  | true=>
   have P6:=jq (Np.ew.1 BO);clear BO;go_wp2_with fail;refine (Yj a _ l bI ko.out _ (HD.out.later aX cj ar.out)).mono ?_;rintro e w4 ⟨rfl,av⟩;have em:=av.size;have ba:=jq (ar.out.trans (av.mono (by omega)));replace c0:w4.cell? ⟨w.heap.size,0,none⟩=some (.string a):=(av.cell (by dsimp only;omega)).trans c0;replace c1:w4.cell? ⟨w.heap.size,1,none⟩=some (.slice A l.length c):=(av.cell (by dsimp only;omega)).trans c1;clear av
   cases BP:Np.yes (Np.xC l) with
   | false=>
    have HX:Hid (r=false):=jq (by rw[<-HR.out];exact Np.aF λh=>qm BP h.1.1.2);clear BP;go_wp2_with fail;go_ret;exact⟨ae HX.out.symm,ba.out⟩
   | true=>
    have P7:=jq (Np.ew.1 BP);clear BP;go_wp2_with fail;refine (X4 a _ l bI HO.out HV.out _ (HD.out.later aX cj ba.out)).mono ?_;rintro e w5 ⟨rfl,aI⟩;have iX:=aI.size;have cx:=jq (ba.out.trans (aI.mono (by omega)));replace c0:w5.cell? ⟨w.heap.size,0,none⟩=some (.string a):=(aI.cell (by dsimp only;omega)).trans c0;replace c1:w5.cell? ⟨w.heap.size,1,none⟩=some (.slice A l.length c):=(aI.cell (by dsimp only;omega)).trans c1;clear aI
    cases BQ:Np.yes (Np.nS l (Np.dl ⟨a.data.toList,l⟩)) with
    | false=>
     have HX:Hid (r=false):=jq (by rw[<-HR.out];exact Np.aF λh=>qm BQ h.1.2);clear BQ;go_wp2_with fail;go_ret;exact⟨ae HX.out.symm,cx.out⟩
    | true=>
     have DT:=jq (Np.ew.1 BQ);clear BQ;go_wp2_with fail;refine (X3 a _ l bI HO.out HV.out _ (HD.out.later aX cj cx.out)).mono ?_;rintro e w6 ⟨rfl,aT⟩;have gm:=aT.size;have dg:=jq (cx.out.trans (aT.mono (by omega)));replace c0:w6.cell? ⟨w.heap.size,0,none⟩=some (.string a):=(aT.cell (by dsimp only;omega)).trans c0;replace c1:w6.cell? ⟨w.heap.size,1,none⟩=some (.slice A l.length c):=(aT.cell (by dsimp only;omega)).trans c1;clear aT
     cases pR:Np.yes (Np.vX a.data.toList l (Np.dl ⟨a.data.toList,l⟩)) with
     | false=>
      have HX:Hid (r=false):=jq (by rw[<-HR.out];exact Np.aF λh=>qm pR h.2);clear pR;go_wp2_with fail;go_ret;exact⟨ae HX.out.symm,dg.out⟩
     | true=>
      have DU:=jq (Np.ew.1 pR);clear pR;go_wp2_with fail;go_ret;exact⟨ae (by rw[<-HR.out];exact (Np.bB ⟨⟨⟨⟨ie.out,P6.out⟩,P7.out⟩,DT.out⟩,DU.out⟩).symm),dg.out⟩
end
end Go.Proofs.YtfnopgdcaanaiaaGreatDoor
