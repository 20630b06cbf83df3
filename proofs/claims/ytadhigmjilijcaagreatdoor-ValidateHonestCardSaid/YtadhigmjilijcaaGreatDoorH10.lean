/- No condition. -/
import Derived.Test.YtadhigmjilijcaaGreatDoorH06
import Derived.Test.YtadhigmjilijcaaGreatDoorH07
import Derived.Test.YtadhigmjilijcaaGreatDoorH08
import Derived.Test.YtadhigmjilijcaaGreatDoorH09
set_option linter.all false
set_option maxRecDepth 100000
set_option maxHeartbeats 8000000
namespace Go.Proofs.YtadhigmjilijcaaGreatDoor
open Go.Proofs.Tryz
section
open Go.RowKit
theorem Mh{c:UInt8}{r:List UInt8}(hc:c≠46):∃ x xs,Np.be (c::r)=(c::x)::xs:=by
 unfold Np.be;rw[Qc hc]
 cases Np.be r with
 | nil=>exact⟨[],[],rfl⟩
 | cons x xs=>exact⟨x,xs,rfl⟩
theorem bNY{l:List UInt8}(h:Np.ai l=true):Np.dC l=((Np.bC l).head? == some [42]):=by
 unfold Np.bC;by_cases hd:l = [46]
 ·subst hd;decide
 ·rw[Qc hd]
  cases l with
  | nil=>exact absurd h (by decide)
  | cons c r=>
   have hg:Np.fW (Np.be (c::r)).reverse 0 false=true:=by
    unfold Np.ai at h;rw[Qc hd] at h;split at h
    ·cases h
    ·exact h
   have hl:=Np.QS _ _ _ hg;by_cases hc:c=46
   ·subst hc;have e:Np.be (46::r) = []::Np.be r:=by rw[Np.be,QbQ rfl]
    rw[e] at hl
    have:=hl [] (by simp)
    rcases this with h1 | h1
    ·cases h1
    ·exact absurd h1 (by decide)
   ·obtain⟨x,xs,e⟩:=Mh (r:=r) hc;rw[e] at hl |-;rw[Bool.eq_iff_iff];simp only[Np.dC,List.head?_cons,beq_iff_eq,Option.some.injEq,List.cons.injEq];constructor
    ·rintro rfl;rcases hl (42::x) (by simp) with h1 | h1
     ·simpa using h1
     ·exfalso;unfold Np.cD at h1;simp only[Bool.and_eq_true,List.all_cons] at h1;exact absurd h1.2.1 (by decide)
    ·exact λh=>h.1
theorem bqJ(s:ByteArray)(h:Np.ai s.data.toList=true)(w:World) :
 Calls prog 46 #[.string s] w (aCX w.heap.size w (.bool (Np.dC s.data.toList))):=by
 have hw:=bNY h;have aB:=nS h;obtain⟨ps,ej⟩:=aaK (Np.bC s.data.toList);obtain⟨r,hr⟩:=aaK (ps.head? == some [42]);rw[hw,ej,hr];have us:=jq ej;have HR:=jq hr;clear hw h ej hr;go_enter func46,ntmps46;go_wp2_with fail;refine (DI s (by omega) _).mono ?_;rw[us.out];rintro e w1 ⟨v,rfl,hv,hb⟩;have HB:=jq hb;clear hb;obtain⟨A,c,rfl,hc,hl,he⟩:=hv
 cases ps with
 | nil=>
  have HX:Hid (r=false):=jq (by rw[<-HR.out];rfl);go_wp2_with fail;go_ret;exact⟨aj HX.out.symm,HB.out⟩
 | cons x xs=>
  obtain⟨b,o,e,rfl,cO,_,hce,hx⟩:=he 0 x rfl;have hx':e = [bB x]:=hx;subst hx';have h0:w1.cell? ⟨b,o,none⟩=some (bB x):=by have:=hce 0 _ rfl;simpa using this
  have HX:Hid ((x == [42])=r):=jq (by rw[<-HR.out,List.head?_cons,Bool.eq_iff_iff];simp);obtain⟨n,hn⟩:=aaK ((x::xs).length);have tH:0<n:=by rw[<-hn];simp
  have hnI:(0:Int)<(n:Int):=by omega
  rw[hn];clear he hce hx hc hl hn;go_wp2_with fail
  all_goals
   go_ret;refine⟨aj ?_,HB.out⟩;rw[<-HX.out]
end
section
open Go.RowKit Go.Shelf
theorem fP.block{w w':World}{B:Nat}{xs:List (List UInt8)}(h:fP w B xs)(hb:w'.heap[B]?=w.heap[B]?):fP w' B xs:=λj x hx=>by
 obtain⟨s,h1,h2,h3,h4⟩:=h j x hx;refine⟨s,h1,h2,(iQ (a:=⟨B,j,none⟩) hb).trans h3,?_⟩;rw[<-h4];simp only[World.frozen?,hb]
end
namespace D
open Go.RowKit Go.Shelf
attribute [local go_sem] Oper.semAt_some
def PH(w:World)(M b5 b6:Nat)(pre:List (List UInt8))(S:Nat->Prop)(W:World):Prop:=
 (∀ k,S k↔k=M\/k=b5\/k=b6)/\Boxed W b5 102 (.slice (some ⟨M,0,none⟩) 8 8)/\Boxed W b6 3 (.int .i64 ((8 - pre.length:Nat):Int))/\pre.length<=8/\Hid (fP W M (List.replicate (8 - pre.length) []++pre.reverse))/\M<W.heap.size/\Below w.heap.size w W
theorem TJ(w:World)(M b5 b6:Nat)(B:Nat)(hB:w.heap.size<=B):iy B (PH w M b5 b6):=by
 rintro s S W W' ⟨hS,h1,h2,h3,h4,h6,h5⟩ aH;refine⟨hS,lS h1 aH ((hS _).2 (.inr (.inl rfl))),lS h2 aH ((hS _).2 (.inr (.inr rfl))),h3,jq (h4.out.block ?_),lqQ h6 aH.size,uI h5 aH hB (bQ _)⟩;exact aH.keep _ h6 (.inr ((hS _).2 (.inl rfl)))
theorem a8Y{p:Nat}{pre:List (List UInt8)}{x:List UInt8}(hp:pre.length=p)(h8:p<8):(List.replicate (8 - p) []++pre.reverse).set (8 - (p+1)) x=List.replicate (8 - (p+1)) []++(pre ++ [x]).reverse:=by
 have e:List.replicate (8 - p) ([]:List UInt8)=List.replicate (8 - (p+1)) [] ++ [[]]:=by
  rw[show 8 - p=(8 - (p+1))+1 by omega,List.replicate_succ']
 rw[e,List.append_assoc,List.set_append_right _ _ (by rw[List.length_replicate];exact bQ _),List.length_replicate,Nat.sub_self,List.reverse_append];rfl
theorem JT:∀ (xs:List (List UInt8)) (n:Nat) (b:Bool),Np.fW xs n b=true->n<=8->n+xs.length<=8
 | [],n,b,_,h=>by simpa using h
 | x::xs,n,b,h,hn=>by
   unfold Np.fW at h;split at h
   ·cases h
   ·rename_i hc;simp only[Bool.or_eq_true,Qa,not_or] at hc;rw[List.length_cons];split at h
    ·have:=JT xs (n+1) true h (by omega);omega
    ·split at h
     ·have:=JT xs (n+1) false h (by omega);omega
     ·cases h
theorem Jw{l:List UInt8}(h:Np.ai l=true):(Np.bI l).length<=8:=by
 unfold Np.bI;split
 ·simp
 ·rename_i hd;unfold Np.ai at h;rw[Qc hd] at h;split at h
  ·cases h
  ·have:=JT _ 0 false h (by omega)
   omega
theorem labels_any(t:ByteArray)(hv:Np.ai t.data.toList=true)(w:World) :
 Calls prog 211 #[.string t] w λe w'=>(∃ v,e = .returned (.tuple #[v,.int .i64 0])/\SlR RTx 1 w' w'.heap.size v (Np.bC t.data.toList))/\Below w.heap.size w w':=by
 have ht:t.size<=60:=nS hv;have ni:Hid ((Np.bI t.data.toList).length<=8):=jq (Jw hv);have HV:=jq hv;clear hv;have fd:∀ w:World,(Instr.makeSlice 102 (.int .i64 8) (.int .i64 8)).run prog w = .ok (.slice (some ⟨w.heap.size,0,none⟩) 8 8) (w.alloc (.cells (madeCells #[Value.string ⟨#[]⟩] 8) 9)):=λw=>LL 8 (by decide) w;have HZ:Hid (∀ j,j<8->(madeCells #[Value.string ⟨#[]⟩] 8)[j]?=some (.string ⟨#[]⟩)):=jq (λj hj=>LK _ _ hj);generalize madeCells #[Value.string ⟨#[]⟩] 8=Z at fd HZ;refine (callsIn_wide (n:=0)).1 ?_;refine callsIn_of_wp_marks func211 rfl trivial ?_ rfl;simp only[ntmps211,List.size_toArray,List.length_cons,List.length_nil,Nat.reduceAdd,Nat.reduceSub,Array.replicate_succ,Array.replicate_zero,List.push_toArray,List.append_toArray,List.nil_append,List.cons_append];gi_wp2_with fail;refine⟨trivial,rfl,?_⟩;refine (callsIn_wide.2 (valid_any t (by omega) _)).mono ?_;rintro e w1 ⟨rfl,av⟩;rw[HV.out];have ay:=jq av;have bG:=av.size;clear av;gi_wp2_with fail;have b5:=Boxed.new (w1.alloc (.cells Z 9)) 102 (.slice (some ⟨w1.heap.size,0,none⟩) 8 8);have b6:=Boxed.new ((w1.alloc (.cells Z 9)).alloc (.cells #[.slice (some ⟨w1.heap.size,0,none⟩) 8 8] 102)) 3 (.int .i64 8);simp only[World.size_alloc] at b5 b6;have rM:fP (w1.alloc (.cells Z 9)) w1.heap.size (List.replicate 8 []):=λj x hx=>by
  rw[List.getElem?_replicate] at hx;split at hx
  ·rename_i hj
   cases hx
   exact⟨⟨#[]⟩,rfl,by decide,by simp[go_sem];exact HZ.out j hj,by simp[go_sem]⟩
  ·cases hx
 refine ME (n₀:=w.heap.size) (w0:=w) (first:=#[.string t]) (captured:=#[]) (gf:=187) rfl (enters_of func187 (by kernel_rfl) rfl) (mk:=λy=>#[.string t,y]) (λ_=>rfl)
  (Jy t (by omega) _ w) (ay.out.trans ((((vQ _ w1).alloc (bQ _) _).alloc (by simp) _).alloc (by simp;omega) _ |>.mono bG)) (by simp;omega) (λ_=>rfl) (PH w w1.heap.size (w1.heap.size+1) (w1.heap.size+1+1)) (λ_ _ _ _=>False)
  (TJ _ _ _ _ _ (by simp;omega)) (λc s S W W' h _=>h)
  (λk=>k=w1.heap.size\/k=w1.heap.size+1\/k=w1.heap.size+1+1) (by intro k h;omega) (by intro k h;simp;omega)
  ⟨λ_=>Iff.rfl,b5.alloc _,b6,by simp,jq ((rM.keep (((Go.RowKit.Below.refl _ _).alloc (bQ _) _).alloc (by simp) _) (by simp))),by simp;omega,ay.out.trans ((((vQ _ w1).alloc (bQ _) _).alloc (by simp) _).alloc (by simp;omega) _ |>.mono bG)⟩ ?round ?done ?stop
 case round=>
  rintro l0 pre x S W bW hI fG;gi_wp2;refine⟨S,RdStep.refl _ _,λk e=>.inl e,fG,?_⟩;intro l W₂ aH;obtain⟨hS,c5,c6,h8,hrow,J7,hB⟩:=TJ w _ _ _ _ (by simp;omega) pre S W W₂ hI aH;have il:pre.length+1<=8:=by
   have:=bW.length_le
   have h9:=ni.out;simp at this;omega
  have hx:x∈Np.bI t.data.toList:=bW.subset (by simp);have vx:x.length<=60:=by have:=Np.B2 hx;rw[bO] at this;omega
  have nz:∀ k,S k->k<W₂.heap.size:=λk e=>lqQ (fG k e) aH.size;obtain⟨j,hj⟩:∃ j,8 - (pre.length+1)=j:=⟨_,rfl⟩;have hq:((8 - pre.length:Nat):Int)=((j+1:Nat):Int):=by omega
  rw[hq] at c6;have hj8:j<8:=by omega
  obtain⟨sz,_,_,hcz,zz⟩:=hrow.out j [] (by rw[List.getElem?_append_left (by rw[List.length_replicate];omega),List.getElem?_replicate,QbQ (by omega)]);have IR:Hid (∀ W',fP W' w1.heap.size (List.replicate (8 - pre.length) []++pre.reverse)->fP (W'.setCell ⟨w1.heap.size,j,none⟩ (bB x)) w1.heap.size (List.replicate (8 - (pre ++ [x]).length) []++(pre ++ [x]).reverse)):=jq (λW' hW=>by
   have h1:=hW.store (k:=j) (by rw[List.length_append,List.length_replicate,List.length_reverse];omega) ⟨x.toArray⟩ (by rw[<-bO];simp;omega);have e:((⟨x.toArray⟩:ByteArray).data.toList)=x:=by simp
   rw[e,<-hj,a8Y rfl (by omega)] at h1;rw[List.length_append,List.length_singleton,<-hj];exact h1)
  have HOLD:=jq hrow.out;have Ee:=jq c5;have Ef:=jq c6;have c5c:=c5.cell;have c6c:=c6.cell;have c5f:=c5.frozen;have c6f:=c6.frozen;have ah:IntKind.i64.wrap (((j+1:Nat):Int) - 1)=(j:Int):=by rw[IntWalk.i64_in _ (by omega)];omega
  have rS:(0:Int)<=(j:Int):=by omega
  have uX:(j:Int)<8:=by omega
  have HJ:=jq hj;clear hx hq bW hI hrow c5 c6 hj;have hlen:8 - (pre ++ [x]).length=j:=by rw[List.length_append,List.length_singleton];exact HJ.out
  have XN:=jq hlen;clear hlen;gi_wp2;refine⟨S,((RdStep.refl S W₂).setCell (p:=⟨w1.heap.size+1+1,0,none⟩) (.inl ((hS _).2 (.inr (.inr rfl)))) _).setCell (p:=⟨w1.heap.size,j,none⟩) (.inl ((hS _).2 (.inl rfl))) _,λ_ e=>.inl e,λk e=>by have:=nz k e;simp[World.setCell];omega,hS,?_,?_,by rw[List.length_append,List.length_singleton];omega,jq (IR.out _ (HOLD.out.other (by simp<;>omega) _)),by simpa using J7,(hB.setCell (p:=⟨w1.heap.size+1+1,0,none⟩) (by simp;omega) _).setCell (p:=⟨w1.heap.size,j,none⟩) (by simpa using bG) _⟩
  ·exact fC (fC Ee.out (p:=⟨w1.heap.size+1+1,0,none⟩) (by simp) _) (p:=⟨w1.heap.size,j,none⟩) (by simp) _
  ·rw[XN.out];exact fC (Ef.out.set _) (p:=⟨w1.heap.size,j,none⟩) (by simp<;>omega) _
 case done=>
  rintro D S W hD gq bJ ⟨hS,c5,c6,h8,hrow,J7,hB⟩ hK;have c5c:=c5.cell;have c6c:=c6.cell;obtain⟨n,hn⟩:=aaK ((Np.bI t.data.toList).length);rw[hn] at c6c h8;obtain⟨q,hq⟩:∃ q,8 - n=q:=⟨_,rfl⟩;rw[hq] at c6c;have jG:q<=8:=by omega
  have hq0:(0:Int)<=(q:Int):=by omega
  have gI:(q:Int)<=8:=by omega
  have HN:=jq hn;have HQ:=jq hq;have XW:Hid (w1.heap.size≠D):=jq (λe=>gq ((hS _).2 (.inl e.symm)));have IR:=jq hrow.out;have BD:Hid (Np.bC t.data.toList=(Np.bI t.data.toList).reverse):=jq (by rw[<-Np.oI,List.reverse_reverse]);have HXL:Hid (∀ x∈Np.bI t.data.toList,x.length<=140737488355328):=jq (λx hx=>by have:=Np.B2 hx;rw[bO] at this;omega);clear hrow;by_cases tH:n=0
  ·have aWQ:q=8:=by omega
   have X8:Hid (Np.bC t.data.toList = []):=jq (by rw[BD.out,rQ (HN.out.trans tH)];rfl);clear hn hq c5 c6 tH;subst aWQ;gi_wp2;exact pb hK (v:=.tuple #[.slice (some ⟨w1.heap.size,0,none⟩) 0 0,.int .i64 0]) (by simp[results,results211,go_sem]) ⟨⟨_,rfl,by rw[X8.out];exact⟨_,_,rfl,by simp,by simp,λi x hx=>by simp at hx⟩⟩,o7 hB (by have:=ay.out.size;simp at hD;omega) _⟩
  ·have Da:q<8:=by omega
   have b8Z:(q:Int)<8:=by omega
   have vg:¬ q=8:=by omega
   have gy:Hid (8 - q=n):=jq (by omega);have xI:8 - q=n:=by omega
   clear hn hq c5 c6 tH;gi_wp2;refine pb hK (v:=.tuple #[.slice (some ⟨w1.heap.size,q,none⟩) n n,.int .i64 0]) (by simp[results,results211,go_sem]) ⟨⟨_,rfl,?_⟩,o7 hB (by have:=ay.out.size;simp at hD;omega) _⟩;have hr:fP (W.putObj D (.deferred none)) w1.heap.size (List.replicate (8 - (Np.bI t.data.toList).length) []++(Np.bI t.data.toList).reverse):=IR.out.block (zQ XW.out);rw[BD.out];have KN:(Np.bI t.data.toList).reverse.length=n:=by rw[List.length_reverse];exact HN.out
   refine⟨_,n,by rw[KN],by omega,by omega,λi x hx=>?_⟩;have hin:=(cQ.1 hx).1;obtain⟨s,h1,h2,h3,_⟩:=hr (q+i) x (by rw[HN.out,HQ.out,oQ (by rw[List.length_replicate];omega),List.length_replicate,show q+i - q=i by omega];exact hx);refine⟨w1.heap.size,q,[.string s],rfl,by simpa using J7,rfl,λj v hv=>?_,s,h1,h2,rfl⟩
   match j,hv with
   | 0,hv=>cases hv;simpa using h3
 case stop=>
  rintro D c pre S W hD gq bJ mf h hK;exact h.elim
end D
section
open Go.RowKit Go.Shelf
attribute [local go_sem] Oper.semAt_some
theorem labels_any(t:ByteArray)(hv:Np.ai t.data.toList=true)(w:World) :
 Calls prog 211 #[.string t] w λe w'=>(∃ v,e = .returned (.tuple #[v,.int .i64 0])/\SlR RTx 1 w' w'.heap.size v (Np.bC t.data.toList))/\Below w.heap.size w w':=
 (D.labels_any t hv w).mono λ_ _ h=>⟨h.1,h.2.low⟩
end
section
open Go.RowKit
def EY(_:World)(_:Nat)(e:List Value)(x:Np.Host):Prop:=∃ s:ByteArray,s.data.toList=x.name/\s.size<=140737488355328/\e = [.string s,.int .i64 x.addr,.int .i64 x.owner]
theorem Uw:dR EY:=λ_ _ _ _ _ h _=>h
theorem Ux:ef EY:=λ_ _ _ _ _ h _=>h
theorem Tu{w:World}{B n c:Nat}{A:Option Addr}{xs:List Int}(h:SlR oX 1 w B (.slice A n c) xs){k:Nat}{x:Int}(hx:xs[k]?=some x):∃ (b o:Nat),A=some ⟨b,o,none⟩/\b<B/\w.cell? ⟨b,o+k,none⟩=some (.int .i64 x):=by
 obtain⟨A',c',hv,hc,_,he⟩:=h;simp only[Value.slice.injEq] at hv;obtain⟨rfl,_,_⟩:=hv;obtain⟨b,o,e,rfl,hb,_,hce,rfl⟩:=he k x hx;exact⟨b,o,rfl,hb,by have:=hce 0 _ rfl;simpa using this⟩
section
variable {α:Type}
end
theorem beK{x:List UInt8}(h:Np.ai x=true):x≠[]:=by
 rintro rfl;revert h;decide
def aeK(w1:World)(apex:List UInt8)(l:List Np.Signed)(i:Value)(wr:World):Prop:=
 ∃ k:Nat,k<=l.length/\i = .int .i64 k/\Below w1.heap.size w1 wr/\Hid (∀ j x,j<k->l[j]?=some x->Np.bi x.set=true)/\Hid (Np.jg apex none l=Np.jg apex (rj l k) (l.drop k))
theorem boY(a:ByteArray)(ha:a.size<=140737488355328)(v:Value)(l:List Np.Signed)(dJ:l.length<=20000)(w:World)(hd:SlR az 5 w w.heap.size v l) :
 Calls prog 64 #[.agg #[.string a,v]] w (aCX w.heap.size w (.bool (Np.gh ⟨a.data.toList,l⟩))):=by
 have HD:=jq hd;obtain⟨A,c,rfl,aR,cP,-⟩:=hd;have HW:=blW w;go_enter func64,ntmps64;go_wp2_with fail;refine (vH _ ha _).mono ?_;rintro e w1 ⟨rfl,hb⟩;have c0:w1.cell? ⟨w.heap.size,0,none⟩=some (.string a):=by rw[hb.cell (by simp)];go_simp
 have c1:w1.cell? ⟨w.heap.size,1,none⟩=some (.slice A l.length c):=by rw[hb.cell (by simp)];go_simp
 have eH:w.heap.size<w1.heap.size:=by have:=hb.size;simp at this;omega
 have ay:=jq ((HW.out _).trans (hb.mono (by simp)));clear hb
 cases sj:Np.ai a.data.toList with
 | false=>
  have HF:Hid (Np.gh ⟨a.data.toList,l⟩=false):=jq (by unfold Np.gh;rw[sj];rfl);clear sj;go_wp2_with fail;go_ret;exact⟨aj HF.out.symm,ay.out⟩
 | true=>
  have mC:=jq sj;have haz:=nS sj;clear sj;go_wp2_with fail;refine (bqJ a mC.out _).mono ?_;rintro e w0 ⟨rfl,cL⟩;have K9:=cL.size;replace c0:w0.cell? ⟨w.heap.size,0,none⟩=some (.string a):=(cL.cell (by simpa using eH)).trans c0;replace c1:w0.cell? ⟨w.heap.size,1,none⟩=some (.slice A l.length c):=(cL.cell (by simpa using eH)).trans c1;replace ay:=aaZ ay cL;replace eH:w.heap.size<w0.heap.size:=by omega
  clear cL K9;obtain⟨w1,rfl⟩:=aaX w0
  cases bo:Np.dC a.data.toList with
  | true=>
   have HF:Hid (Np.gh ⟨a.data.toList,l⟩=false):=jq (by unfold Np.gh;rw[bo];simp);go_wp2_with (go_at_call 168;refine (GN a ha _).mono ?_;rintro e w' ⟨rfl,rfl⟩);go_ret;exact⟨aj HF.out.symm,ay.out⟩
  | false=>
   have HF:Hid (Np.gh ⟨a.data.toList,l⟩=Np.jg a.data.toList none l):=jq (by unfold Np.gh;rw[bo,mC.out];simp);go_wp2_with (go_at_call 168;refine (GN a ha _).mono ?_;rintro e w' ⟨rfl,rfl⟩);clear bo;go_loopw [3] (λi wr=>aeK w1 a.data.toList l i wr) (λi _=>l.length - (intOf i).toNat)
   case atStart=>exact⟨0,jQ _,rfl,vQ _ _,jq (λj x hj=>by omega),jq rfl⟩
   case round=>
    obtain⟨k,hk,rfl,aT,HV,HG⟩:=hrel;have aZX:=aT.size;have d0:wr.cell? ⟨w.heap.size,0,none⟩=some (.string a):=by rw[aT.cell (by simpa using eH)];exact c0
    have d1:wr.cell? ⟨w.heap.size,1,none⟩=some (.slice A l.length c):=by rw[aT.cell (by simpa using eH)];exact c1
    have gO:w.heap.size<wr.heap.size:=by omega
    by_cases ag:k<l.length
    ·have mI:Below w.heap.size w wr:=ay.out.trans (aT.abQ);have aF:=aQ ag;obtain⟨b,o,c',sn,dv,sv,hA,cX,_,aP,aB,aV,aZ,e0,e1,e2,e3,e4⟩:=dN (HD.out.keep ax mI) aF
     cases hA
     generalize hx:l[k]=x at *;clear hx;obtain⟨Ad,cd,rfl,aY,qE⟩:=ba aV;have iX:=jq aV;have HX:=jq aF;have Dg:(⟨sn.data.toList,x.set.type,x.set.life,x.set.data⟩:Np.DSet)=x.set:=by rw[aP]
     have wH:=jq Dg;have bU:=jq aP;have bN:=jq aT;have yE:=jq mI;have ro:=jq (HG.out.trans (VB aF (rj l k)));clear aV aZ aF aP aT mI c0 c1 Dg e4;go_wp2_with fail;have dE:Below wr.heap.size wr (wr.alloc (.cells #[.string sn,.int .i64 x.set.type,.int .i64 x.set.life,.slice Ad x.set.data.length cd] 25)):=blAl;have p0:=World.cell?_alloc_new wr #[.string sn,.int .i64 x.set.type,.int .i64 x.set.life,.slice Ad x.set.data.length cd] 25 0;have p1:=World.cell?_alloc_new wr #[.string sn,.int .i64 x.set.type,.int .i64 x.set.life,.slice Ad x.set.data.length cd] 25 1;have p2:=World.cell?_alloc_new wr #[.string sn,.int .i64 x.set.type,.int .i64 x.set.life,.slice Ad x.set.data.length cd] 25 2;have p3:=World.cell?_alloc_new wr #[.string sn,.int .i64 x.set.type,.int .i64 x.set.life,.slice Ad x.set.data.length cd] 25 3;have tX:wr.heap.size<(wr.alloc (.cells #[.string sn,.int .i64 x.set.type,.int .i64 x.set.life,.slice Ad x.set.data.length cd] 25)).heap.size:=by simp
     generalize wr.alloc (.cells #[.string sn,.int .i64 x.set.type,.int .i64 x.set.life,.slice Ad x.set.data.length cd] 25)=wa at dE p0 p1 p2 p3 tX |-;have eK:=jq dE;have vU:=aaZ yE dE;replace d0:wa.cell? ⟨w.heap.size,0,none⟩=some (.string a):=by rw[dE.cell (by simpa using gO)];exact d0
     replace d1:wa.cell? ⟨w.heap.size,1,none⟩=some (.slice (some ⟨b,o,none⟩) l.length c):=by rw[dE.cell (by simpa using gO)];exact d1
     replace p0:wa.cell? ⟨wr.heap.size,0,none⟩=some (.string sn):=p0;replace p1:wa.cell? ⟨wr.heap.size,1,none⟩=some (.int .i64 x.set.type):=p1;replace p2:wa.cell? ⟨wr.heap.size,2,none⟩=some (.int .i64 x.set.life):=p2;replace p3:wa.cell? ⟨wr.heap.size,3,none⟩=some (.slice Ad x.set.data.length cd):=p3;have qC:∀ (g:ci wa) (p:Addr),p.block<wa.heap.size->g.w.cell? p=wa.cell? p:=λg p h=>g.cell p h;have caX:w.heap.size<wa.heap.size:=by omega
     have b1Z:b<wa.heap.size:=by omega
     have El:=jq ((iX.out.keep bM (eK.out.abQ)).more bY (show w.heap.size<=wa.heap.size by omega));clear dE e0 e1 e2 e3;have bw:∀ g:ci wa,Calls prog 100 #[.agg #[.string sn,.int .i64 x.set.type,.int .i64 x.set.life,.slice Ad x.set.data.length cd]] g.w λe w'=>e = .returned (.bool (Np.bi x.set))/\Below g.w.heap.size g.w w':=λg=>by
      rw[<-wH.out];exact Ur sn aB _ _ _ x.set.data _ (El.out.later bM bY g.below)
     cases km:Np.bi x.set with
     | false=>
      rw[km] at bw;have nl:=jq bw;have oa:=jq km;clear bw km;refine adK ?_
      repeat (go_big_quiet_step ((go_at_call 100;exact Calls.grow_of (nl.out _))))
      refine wpQuiet_nil ?_;rintro _ ⟨g,rfl⟩;go_wp2_with fail;go_ret;refine⟨aj ?_,vU.out.trans (g.below.abQ)⟩;rw[HF.out,ro.out,oa.out,Bool.and_false];rfl
     | true=>
      rw[km] at bw;have nl:=jq bw;have oa:=jq km;have iC:Np.ai sn.data.toList=true:=by rw[bU.out];exact (Np.yu km).1
      have eN:=jq iC;have aYJ:=nS iC;have hin:∀ g:ci wa,Calls prog 21 #[.string sn,.string a] g.w λe w'=>e = .returned (.bool (Np.aW sn.data.toList a.data.toList))/\Below g.w.heap.size g.w w':=λg=>by
       rw[<-Np.py (beK mC.out)];exact DH sn a (by omega) (by omega) _
      have Cy:∀ j y,j<k+1->l[j]?=some y->Np.bi y.set=true:=λj y hj hy=>by
       by_cases e:j=k
       ·subst e;rw[HX.out] at hy;cases hy;exact km
       ·exact HV.out j y (by omega) hy
      have vR:=jq Cy;clear bw km iC Cy
      cases fL:Np.aW sn.data.toList a.data.toList with
      | false=>
       rw[fL] at hin;have Bk:=jq hin;have Jb:=jq fL;clear fL hin;refine adK ?_
       repeat (go_big_quiet_step (first
        | (go_at_call 100;exact Calls.grow_of (nl.out _))
        | (go_at_call 21;exact Calls.grow_of (Bk.out _))))
       refine wpQuiet_nil ?_;rintro _ ⟨g,rfl⟩;go_wp2_with fail;go_ret;refine⟨aj ?_,vU.out.trans (g.below.abQ)⟩;rw[HF.out,ro.out,<-bU.out,eN.out,Jb.out];rfl
      | true=>
       rw[fL] at hin;have Bk:=jq hin;have Dh:Np.jg a.data.toList none l=((match rj l k with | none=>true | some q=>decide (Np.ic q x.set<0))&&Np.jg a.data.toList (rj l (k+1)) (l.drop (k+1))):=by
        rw[ro.out,<-bU.out,eN.out,fL,oa.out,G2 HX.out];rfl
       have gl:=jq Dh;clear fL hin Dh;by_cases df:k=0
       ·subst df;refine adK ?_
        repeat (go_big_quiet_step (first
         | (go_at_call 100;exact Calls.grow_of (nl.out _))
         | (go_at_call 21;exact Calls.grow_of (Bk.out _))))
        refine wpQuiet_nil ?_;rintro _ ⟨g,rfl⟩;go_wp2_with fail;go_roundw
        case rel=>exact⟨1,by omega,by go_num,bN.out.trans ((eK.out.trans (g.below.abQ)).mono bN.out.size),vR,jq (by rw[gl.out];rfl)⟩
        ·simp[intOf]<;>omega
       ·obtain⟨i,rfl⟩:∃ i,k=i+1:=⟨k - 1,by omega⟩;have tC:=aQ (show i<l.length by omega);obtain⟨b',o',c'',sq,dq,sg,qi,FH,_,jm,SY,CH,_,f0,f1,f2,f3,_⟩:=dN ((HD.out.keep ax vU.out)) tC
        cases qi
        generalize hy:l[i]=y at *;clear hy;obtain⟨Aq,cq,rfl,xA,hlq⟩:=ba CH;have SV:(⟨sq.data.toList,y.set.type,y.set.life,y.set.data⟩:Np.DSet)=y.set:=by rw[jm]
        have S9:Np.ai sq.data.toList=true:=by rw[jm];exact (Np.yu (HV.out i y (by omega) tC)).1
        have SD:rj l (i+1)=some y.set:=G2 tC;have BE:=jq SD;have SA:∀ g:ci wa,Calls prog 132 #[.agg #[.string sq,.int .i64 y.set.type,.int .i64 y.set.life,.slice Aq y.set.data.length cq],.agg #[.string sn,.int .i64 x.set.type,.int .i64 x.set.life,.slice Ad x.set.data.length cd]] g.w λe w'=>e = .returned (.int .i64 (Np.ic y.set x.set))/\Below g.w.heap.size g.w w':=λg=>by
         have:=bpJ sq sn y.set.type y.set.life x.set.type x.set.life (.slice Aq y.set.data.length cq) (.slice Ad x.set.data.length cd) y.set.data x.set.data S9 eN.out g.w
         rw[SV,wH.out] at this;exact this
        have NU:=jq SA;clear SV SD CH jm tC SA S9;have iO:(0:Int)<=(i:Int):=by omega
        have mP:(i:Int)<(l.length:Int):=by omega
        have aVJ:(0:Int)<(((i+1:Nat)):Int):=by omega
        have ah:IntKind.i64.wrap (((i+1:Nat):Int) - 1)=(i:Int):=by rw[IntWalk.i64_in _ (by omega)];omega
        by_cases kU:Np.ic y.set x.set<0
        ·have pM:=jq (uQ kU);have Kq:¬ (0<=Np.ic y.set x.set):=by omega
         refine adK ?_
         repeat (go_big_quiet_step (first
          | (go_at_call 100;exact Calls.grow_of (nl.out _))
          | (go_at_call 21;exact Calls.grow_of (Bk.out _))
          | (go_at_call 132;exact Calls.grow_of (NU.out _))))
         refine wpQuiet_nil ?_;rintro _ ⟨g,rfl⟩;go_wp2_with fail;go_roundw
         case rel=>
          refine⟨i+1+1,by omega,by go_num,bN.out.trans ((eK.out.trans (g.below.abQ)).mono bN.out.size),vR,jq ?_⟩;rw[gl.out,BE.out];simp only[pM.out,Bool.true_and]
         case measure=>simp[intOf]<;>omega
        ·have pM:=jq (tQ kU);have Kq:0<=Np.ic y.set x.set:=by omega
         refine adK ?_
         repeat (go_big_quiet_step (first
          | (go_at_call 100;exact Calls.grow_of (nl.out _))
          | (go_at_call 21;exact Calls.grow_of (Bk.out _))
          | (go_at_call 132;exact Calls.grow_of (NU.out _))))
         refine wpQuiet_nil ?_;rintro _ ⟨g,rfl⟩;go_wp2_with fail;go_ret;refine⟨aj ?_,vU.out.trans (g.below.abQ)⟩;rw[HF.out,gl.out,BE.out];simp only[pM.out,Bool.false_and]
    ·go_wp2_with fail;go_ret;refine⟨aj ?_,ay.out.trans (aT.abQ)⟩;rw[HF.out,HG.out,List.drop_eq_nil_of_le (by omega)];rfl
end
namespace Np
def zi(a:Int)(c:Copy):List Copy:=if c.frm<a/\a<c.til then [⟨c.host,c.frm,a,c.zone⟩,⟨c.host,a,c.til,c.zone⟩] else [c]
def wW(l:List Copy)(k:Nat)(a:Int):List Copy:=
 match l[k]? with
 | none=>l
 | some c=>l.take k++zi a c++l.drop (k+1)
theorem aqZ{a:Int}{c d:Copy}(h:d∈zi a c):d.host=c.host/\d.zone=c.zone/\c.frm<=d.frm/\d.til<=c.til/\(c.frm<c.til->d.frm<d.til):=by
 unfold zi at h;split at h
 ·rename_i hc;simp only[List.mem_cons,Qh,or_false] at h;rcases h with rfl | rfl
  ·exact⟨rfl,rfl,Int.le_refl _,Int.le_of_lt hc.2,λ_=>hc.1⟩
  ·exact⟨rfl,rfl,Int.le_of_lt hc.1,Int.le_refl _,λ_=>hc.2⟩
 ·rw[List.mem_singleton] at h;subst h;exact⟨rfl,rfl,Int.le_refl _,Int.le_refl _,id⟩
theorem aqX{l:List Copy}{k:Nat}{c:Copy}(h:l[k]?=some c):l=l.take k ++ [c]++l.drop (k+1):=by
 obtain⟨hk,rfl⟩:=cQ.1 h;rw[List.append_assoc,List.singleton_append,List.getElem_cons_drop,List.take_append_drop]
theorem Qq(l:List Copy)(k:Nat)(a:Int):wW l k a=l\/∃ p c q,l=p ++ [c]++q/\wW l k a=p++zi a c++q:=by
 unfold wW
 cases h:l[k]? with
 | none=>exact .inl rfl
 | some c=>exact .inr ⟨_,c,_,aqX h,rfl⟩
theorem Qr{l:List Copy}{k:Nat}{a:Int}{d:Copy}(h:d∈wW l k a):∃ c∈l,d.host=c.host/\d.zone=c.zone/\c.frm<=d.frm/\d.til<=c.til/\(c.frm<c.til->d.frm<d.til):=by
 rcases Qq l k a with e | ⟨p,c,q,e1,e2⟩
 ·rw[e] at h;exact⟨d,h,rfl,rfl,Int.le_refl _,Int.le_refl _,id⟩
 ·rw[e2] at h;rcases List.mem_append.1 h with h | h
  ·rcases List.mem_append.1 h with h | h
   ·exact⟨d,by rw[e1];simp[h],rfl,rfl,Int.le_refl _,Int.le_refl _,id⟩
   ·exact⟨c,by rw[e1];simp,aqZ h⟩
  ·exact⟨d,by rw[e1];simp[h],rfl,rfl,Int.le_refl _,Int.le_refl _,id⟩
theorem RE{l:List Copy}(hl:vO l){P:Int->Zone->Prop} : (∃ c∈l,P c.host c.zone)↔∃ t,∃ c∈l,P c.host c.zone/\c.frm<=t/\t<c.til:=
 ⟨λ⟨c,h1,h2⟩=>⟨c.frm,c,h1,h2,Int.le_refl _,hl c h1⟩,λ⟨_,c,h1,h2,_⟩=>⟨c,h1,h2⟩⟩
def E1(l m:List Copy):Prop:=∀ (P:Int->Zone->Prop) (t:Int),(∃ d∈l,P d.host d.zone/\d.frm<=t/\t<d.til)↔∃ c∈m,P c.host c.zone/\c.frm<=t/\t<c.til
theorem E1.zone{l m:List Copy}(h:E1 l m)(hl:vO l)(hm:vO m){P:Int->Zone->Prop} : (∃ c∈l,P c.host c.zone)↔∃ c∈m,P c.host c.zone:=by
 rw[RE hl,RE hm];exact⟨λ⟨t,ht⟩=>⟨t,(h P t).1 ht⟩,λ⟨t,ht⟩=>⟨t,(h P t).2 ht⟩⟩
theorem E1.fresh{l m:List Copy}(h:E1 l m)(hl:vO l)(hm:vO m)(zone:List UInt8)(s:Signed):yd (ym (Am l zone) s)=yd (ym (Am m zone) s):=by
 refine bgJ (Mn hl) (Mn hm) λt=>Tt.trans (Iff.trans ?_ Tt.symm)
 have:=h (λ_ z=>z.apex=zone/\s∈z.sets) t
 simpa only[and_assoc] using this
theorem aqK(l:List Copy)(k:Nat)(a:Int):(wW l k a).length<=l.length+1:=by
 rcases Qq l k a with e | ⟨p,c,q,e1,e2⟩
 ·rw[e];omega
 ·rw[e2,e1]
  have:(zi a c).length<=2:=by unfold zi;split<;>simp
  simp only[List.length_append,List.length_singleton];omega
def withC(h:Hist)(l:List Copy):Hist:=⟨h.hosts,l,h.anchor,h.hints,h.drift,h.stop⟩
end Np
section
open Go.RowKit

end
namespace Np


structure Ent22 where
 signed:Signed
 zone:List UInt8
 til:Int
deriving DecidableEq
def QOk(n:List UInt8)(ty:Int):Prop:=ai n=true/\1<=ty/\ty<=8
def a4J(a b:Ent22):Prop:=a.signed.set.name=b.signed.set.name/\a.signed.set.type=b.signed.set.type/\a.zone=b.zone
structure EntOk(e:Ent22):Prop where
 name:ai e.signed.set.name=true
 zone:ai e.zone=true
 wild:dC e.zone=false
 under:aW e.signed.set.name e.zone=true
 til:1<=e.til/\e.til<=20100001
 kind:(e.signed.set.data = []/\(1<=e.signed.set.type/\e.signed.set.type<=8)/\(0<=e.signed.set.life/\e.signed.set.life<=100000)/\e.signed.sigs = [])\/(e.signed.set.data≠[]/\bi e.signed.set=true/\gB e.zone e.signed.sigs)
structure VCache(l:List Ent22):Prop where
 few:l.length<=400
 each:∀ e∈l,EntOk e
 apart:l.Pairwise λa b=>¬ a4J a b
theorem VCache.sub{l m:List Ent22}(h:VCache l)(hm:m.Sublist l):VCache m:=
 ⟨yQ hm.length_le h.few,λe he=>h.each e (hm.subset he),h.apart.sublist hm⟩
def bA(s z:List UInt8):Bool:=ai s&&(ai z&&aW s z)
def JD:List (List UInt8)->List (List UInt8)->Nat->Nat
 | x::xs,y::ys,n=>if x=y then JD xs ys ((if 0<n then n+1 else 0)+x.length) else n
 | _,_,n=>n
def zh(a b:List UInt8):List UInt8:=if JD (bI a) (bI b) 0=0 then [46] else a.drop (a.length - JD (bI a) (bI b) 0)
def pG:Nat->List UInt8->List (List UInt8)
 | 0,_=>[]
 | k+1,s=>if s = [46] then [] else jo s::pG k (jo s)
def ups(s:List UInt8):List (List UInt8):=pG (bC s).length s
def eR(s:List UInt8):List UInt8:=if s = [46] then [42] else 42::46::s
def bOZ(n:List UInt8):Option (List UInt8):=if ai (dm ([42]::bC n)) then some (dm ([42]::bC n)) else none
def fU(s:List UInt8):Int:=if s = [46] then 0 else (s.count 46:Int)+1
def vG(s:DSet):List UInt8:=match s.data with | []=>[] | d::_=>d.text
def bGQ(s:DSet):Int:=match s.data with | []=>0 | d::_=>d.n
def FE(s:DSet)(t:Nat):Bool:=bGQ s / 2 ^ t % 2 == 1
def LP(s:DSet):Bool:=FE s 2&&!FE s 4
def TC(apex:List UInt8)(s:DSet):Bool:=decide (s.type=8)&&(bA s.name apex&&s.data.all λd=>bA d.text apex)
def Fc(apex:List UInt8)(s:DSet)(n:List UInt8):Bool:=bA n apex&&(decide (br s.name n<0)&&(vG s == apex||decide (br n (vG s)<0)))
def UZ(s:DSet)(n:List UInt8):Bool:=!LP s||(n == s.name||!bA n s.name)
def UT(s:DSet)(t:Nat):Bool:=!FE s t&&!FE s 3
def Vg(s:List UInt8):Bool:=ai s&&!dC s
def apZ(apex:List UInt8)(s:DSet)(n:List UInt8):Bool×Int:=if Vg apex&&(ai n&&(bi s&&TC apex s)) then (Fc apex s n,0) else (false,1)
def bMX(n:List UInt8)(s:DSet):Option (List UInt8):=
 let a:=zh n s.name
 let b:=zh n (vG s)
 bOZ (if a.length<b.length\/a = [46] then b else a)
def Qt(apex:List UInt8)(t:Nat)(n:List UInt8)(nexts:List DSet):List DSet->Int
 | []=>0
 | s::r=>match bMX n s with
   | none=>6
   | some w=>if nexts.any λx=>x.name == w&&UT x t then 5 else if nexts.any λx=>UZ x w&&Fc apex x w then 6 else Qt apex t n nexts r
def bfK(apex:List UInt8)(t:Nat)(n:List UInt8)(s:DSet):Bool:=
 (s.name == n&&(UT s t&&(decide (t=6)||decide (t=8)||!LP s)))||(Fc apex s n&&bA (vG s) n)
def zj(apex n:List UInt8)(t:Int)(l:List DSet):Int×Int:=
 if !Vg apex||!(ai n&&decide (1<=t)&&decide (t<=8)) then (0,1) else
 if l.any λs=>!bi s then (0,1) else
 if !bA n apex||(n == apex&&decide (t=6)) then (0,0) else
 let nexts:=l.filter (TC apex)
 let speaking:=nexts.filter λs=>UZ s n
 if speaking.any (bfK apex t.toNat n) then (5,0) else
 (Qt apex t.toNat n nexts (speaking.filter λs=>Fc apex s n),0)
def kp(s:DSet):List Key:=s.data.map λd=>⟨d.n,d.m⟩
def dF(known:List Signed)(n:List UInt8)(t:Int):Option Signed:=known.find? λs=>decide (s.set.type=t)&&s.set.name == n
def vF(anchor:DSet)(keys:Signed)(t d:Int):Bool:=
 (bi anchor&&decide (anchor.type=6))&&((bi keys.set&&(decide (keys.set.type=7)&&keys.set.name == anchor.name)) &&
   gw keys anchor.name ((kp keys.set).filter λk=>(kp anchor).any λx=>decide (x=k)) t d)
abbrev oh:=List UInt8×Int
def da(known:List Signed):Nat->List UInt8->List (List UInt8)×oh×Int
 | 0,_=>([],([],0),31)
 | k+1,n=>if n = [46] then ([n],([],0),0) else match dF known n 6 with
   | none=>([],(n,6),4)
   | some s=>match s.sigs with
     | []=>([],([],0),31)
     | g::_=>if !bA n g.zone||n == g.zone then ([],([],0),31) else match da known k g.zone with
       | (l,q,e)=>if e=0 then (n::l,([],0),0) else ([],q,e)
def ky:Signed:=⟨⟨[],0,0,[]⟩,[]⟩
def iz(known:List Signed)(anchor:DSet)(t d:Int):List (List UInt8)->List UInt8->List Key->List Key×oh×Int
 | [],_,ks=>(ks,([],0),0)
 | n::r,a,ks=>
  if n≠[46]/\gw ((dF known n 6).getD ky) a ks t d=false then ([],([],0),31) else
  match dF known n 7 with
  | none=>([],(n,7),4)
  | some k=>if vF (if n = [46] then anchor else ((dF known n 6).getD ky).set) k t d then iz known anchor t d r n (kp k.set) else ([],([],0),31)
def pC(known:List Signed)(anchor:DSet)(zone:List UInt8)(t d:Int):List Key×oh×Int:=
 if 400<known.length\/bi anchor=false\/anchor.type≠6\/anchor.name≠[46] then ([],([],0),1) else
 if ai zone=false\/dC zone=true\/mo t d=false then ([],([],0),1) else
 if (known.any λs=>!bi s.set) then ([],([],0),1) else
 match da known 10 zone with
 | (l,q,e)=>if e=0 then iz known anchor t d l.reverse [] [] else ([],q,e)
def cx(s:Signed):List UInt8:=match s.sigs with | []=>[] | g::_=>g.zone
def fS(known:List Signed)(n:List UInt8)(t:Int):Option Signed:=known.find? λs=>(s.set.name == n&&decide (s.set.type=t))&&cx s != []
inductive Found where
 | set (s:Signed)
 | miss (n:List UInt8) (t:Int)
 | loop
def atZ(s:DSet)(n:List UInt8):List UInt8:=if bA (zh n (vG s)) (zh n s.name) then zh n (vG s) else zh n s.name
def GJ(s:DSet)(zone n a:List UInt8):Bool:=decide (s.type=8)&&(apZ zone s n == (true,0)&&(!(LP s&&bA n s.name)&&atZ s n == a))
def AC(known:List Signed)(n:List UInt8)(t:Int):List Signed:=
 ((ups n).findSome? λa=>(fS known (eR a) t).bind λs=>(known.find? λp=>cx p == cx s&&GJ p.set (cx s) n a).map λp=>[s,p]).getD []
def AE(n:List UInt8):List Signed->List (List UInt8)->List (List UInt8)
 | [],zs=>zs
 | s::r,zs=>AE n r (if s.set.type=8/\cx s≠[]/\bA n (cx s)=true/\cx s∉zs then zs ++ [cx s] else zs)
def sD(known:List Signed)(z:List UInt8):List Signed:=known.filter λs=>decide (s.set.type=8)&&cx s == z
def xa(known:List Signed)(n:List UInt8)(t:Int):List Signed:=
 (((AE n known []).mergeSort λa b=>decide (fU b<=fU a)).findSome? λz=>
   if zj z n t ((sD known z).map (·.set))=(5,0)\/zj z n t ((sD known z).map (·.set))=(6,0) then some (sD known z) else none).getD []
def yl(known:List Signed)(n:List UInt8)(t:Int):List Found:=
 if AC known n t≠[] then (AC known n t).map .set else if xa known n t≠[] then (xa known n t).map .set else [.miss n t]
def rG(known:List Signed)(n:List UInt8)(t:Int):Option Signed:=if t=3\/t=8 then none else fS known n 3
def lx(known:List Signed)(t:Int):Nat->List UInt8->List Found
 | k,n=>match fS known n t with
   | some s=>[.set s]
   | none=>match rG known n t with
     | none=>yl known n t
     | some a=>match k with
       | 0=>[.loop]
       | k+1=>.set a::lx known t k (vG a.set)
def mY(known:List Signed)(anchor:DSet)(t d:Int)(s:Signed):Int×oh:=
 if !bA s.set.name (cx s)||(decide (s.set.type=6)&&s.set.name == cx s) then (2,([],0)) else
 match pC known anchor (cx s) t d with
 | (ks,q,e)=>if e=0 then (if gw s (cx s) ks t d then (1,([],0)) else (2,([],0))) else if e=4 then (3,q) else (2,([],0))
structure Verd where
 kind:Int
 q:oh
 sets:List Signed
def t6(known:List Signed)(anchor:DSet)(t d:Int):List Found->List Signed->Verd×Int
 | [],good=>(⟨1,([],0),good⟩,0)
 | .loop::_,_=>(⟨0,([],0),[]⟩,33)
 | .miss n t::_,_=>(⟨3,(n,t),[]⟩,0)
 | .set s::r,good=>if (mY known anchor t d s).1=1 then t6 known anchor t d r (good ++ [s]) else (⟨(mY known anchor t d s).1,(mY known anchor t d s).2,[]⟩,0)
noncomputable def mX(known:List Signed)(anchor:DSet)(n:List UInt8)(ty t d:Int):Verd×Int:=
 if 400<known.length\/(known.any λs=>!bi s.set)=true\/bi anchor=false\/anchor.type≠6\/anchor.name≠[46] then (⟨0,([],0),[]⟩,1) else
 if yes (QOk n ty)=false\/mo t d=false then (⟨0,([],0),[]⟩,1) else
 t6 known anchor t d (lx known ty 8 n) []
end Np
section
open Go.RowKit
theorem bGK(s z:ByteArray)(hs:s.size<=140737488355328)(hz:z.size<=140737488355328)(w:World)(v1:Np.ai s.data.toList=true)(v2:Np.ai z.data.toList=false) :
 Calls prog 61 #[.string s,.string z] w (aCX w.heap.size w (.tuple #[.bool false,.int .i64 11])):=by
 have V1:=jq v1;have V2:=jq v2;clear v1 v2;go_enter func61,ntmps61;go_wp2_with fail;refine (valid_any s hs _).mono ?_;rintro e w1 ⟨rfl,hb⟩;rw[V1.out];have ay:=jq hb;clear hb;go_wp2_with fail;refine (valid_any z hz _).mono ?_;rintro e w2 ⟨rfl,hb⟩;rw[V2.out];have am:=jq (ay.out.trans (hb.mono ay.out.size));clear hb;go_wp2_with fail;go_ret2;exact⟨rfl,am.out⟩
theorem T6(s z:ByteArray)(hs:s.size<=140737488355328)(hz:z.size<=140737488355328)(w:World) :
 Calls prog 61 #[.string s,.string z] w (aCX w.heap.size w (.tuple #[.bool (Np.bA s.data.toList z.data.toList),.int .i64 (if Np.ai s.data.toList&&Np.ai z.data.toList then 0 else 11)])):=by
 unfold Np.bA
 cases v1:Np.ai s.data.toList with
 | false=>exact Vc s z hs w v1
 | true=>
  cases v2:Np.ai z.data.toList with
  | false=>exact bGK s z hs hz w v1 v2
  | true=>exact vJ s z hs hz w v1 v2
theorem yx(s z:ByteArray)(hs:s.size<=140737488355328)(hz:z.size<=140737488355328)(w:World) :
 Calls prog 44 #[.string s,.string z] w (aCX w.heap.size w (.bool (Np.bA s.data.toList z.data.toList))):=by
 go_enter func44,ntmps44;go_wp2_with fail;refine (T6 s z hs hz w).mono ?_;rintro e w2 ⟨rfl,hb⟩;have HB:=jq hb;have hc:Np.bA s.data.toList z.data.toList=true->(if Np.ai s.data.toList&&Np.ai z.data.toList then (0:Int) else 11)=0:=λh=>by
  unfold Np.bA at h;simp only[Bool.and_eq_true] at h;rw[h.1,h.2.1];rfl
 clear hb;obtain⟨r,hr⟩:=aaK (Np.bA s.data.toList z.data.toList);obtain⟨c,uP⟩:=aaK (if Np.ai s.data.toList&&Np.ai z.data.toList then (0:Int) else 11);rw[hr,uP];rw[hr,uP] at hc;have HR:=jq hr;clear hr uP
 cases r with
 | false=>
  clear hc;go_wp2_with fail;go_ret;exact⟨aj HR.out.symm,HB.out⟩
 | true=>
  obtain rfl:=hc rfl;clear hc;go_wp2_with fail;go_ret;exact⟨aj HR.out.symm,HB.out⟩
theorem Vi(n:ByteArray)(hn:n.size<=140737488355328)(ty:Int)(w:World) :
 Calls prog 34 #[.agg #[.string n,.int .i64 ty]] w λe w'=>e = .returned (.bool (Np.ai n.data.toList&&(decide (1<=ty)&&decide (ty<=8))))/\Below w.heap.size w w':=by
 obtain⟨X,hX⟩:=aaK w.heap.size;obtain⟨w1,ah⟩:=aaK (w.alloc (.cells #[.string n,.int .i64 ty] 27));have hb:Below w.heap.size w w1:=by rw[<-ah];exact blAl
 have bG:w1.heap.size=X+1:=by rw[<-ah,<-hX];simp
 have ay:=jq hb;have k0:w1.cell? ⟨X,0,none⟩=some (.string n):=by rw[<-ah,<-hX];simp[go_sem]
 have k1:w1.cell? ⟨X,1,none⟩=some (.int .i64 ty):=by rw[<-ah,<-hX];simp[go_sem]
 clear hb;go_enter func34,ntmps34;go_wp2_with fail
 try clear ah
 refine (nameValid_any n hn w1).mono ?_;rintro e w2 ⟨rfl,hb⟩;replace k1:=aaQ hb k1;have am:=aaZ ay hb;clear hb k0;obtain⟨r,hr⟩:=aaK (Np.ai n.data.toList);have HR:=jq hr;rw[hr];clear hr
 cases r with
 | false=>
  go_wp2_with fail;exact bodyPost_ret (v:=.bool false) (by simp[results,results34,go_sem]) rfl ⟨by rw[HR.out];rfl,am.out⟩
 | true=>
  by_cases h1:1<=ty
  ·have tj:decide (1<=ty)=true:=uQ h1;go_wp2_with fail;exact bodyPost_ret (v:=.bool (decide (ty<=8))) (by simp[results,results34,go_sem]) rfl ⟨by rw[HR.out,tj];rfl,am.out⟩
  ·have tj:decide (1<=ty)=false:=tQ h1;go_wp2_with fail;exact bodyPost_ret (v:=.bool false) (by simp[results,results34,go_sem]) rfl ⟨by rw[HR.out,tj];rfl,am.out⟩
theorem bNJ(s:ByteArray)(hs:s.size<=60)(w:World) :
 Calls prog 155 #[.string s] w λe w'=>∃ c:ByteArray,e = .returned (.string c)/\(c.data.toList=Np.eR s.data.toList/\c.size<=62)/\w=w':=by
 by_cases h:s.data.toList = [46]
 ·have h2:(s.toList == [46])=true:=by rw[dQ,h];rfl
  have HW:Hid ((⟨#[42]⟩:ByteArray).data.toList=Np.eR s.data.toList):=jq (by unfold Np.eR;rw[QbQ h]);clear h;go_enter func155,ntmps155;go_wp2_with fail;go_ret;exact⟨_,rfl,⟨HW.out,by decide⟩,rfl⟩
 ·have h2:(s.toList == [46])=false:=by rw[dQ];simpa using h
  have HW:Hid (((⟨#[42,46]⟩:ByteArray)++s).data.toList=Np.eR s.data.toList):=jq (by unfold Np.eR;rw[Qc h];simp);clear h;go_enter func155,ntmps155;go_wp2_with fail;go_ret;exact⟨_,rfl,⟨HW.out,by rw[ByteArray.size_append];show 2+s.size<=62;omega⟩,rfl⟩
theorem UQ(s:ByteArray)(ty life:Int)(v u:Value)(gs:List Np.Sig)(x:Np.DSet)(w:World)(hg:SlR en 6 w w.heap.size u gs) :
 Calls prog 89 #[.agg #[.string s,.int .i64 ty,.int .i64 life,v,u]] w λe w'=>∃ c:ByteArray,e = .returned (.string c)/\(c.data.toList=Np.cx ⟨x,gs⟩/\c.size<=140737488355328)/\Below w.heap.size w w':=by
 have hb:∀ o,Below w.heap.size w (w.alloc o):=λo=>(vQ _ _).alloc (bQ _) o;have HB:=jq hb;clear hb;obtain⟨A,c,rfl,hc,_,he⟩:=hg
 cases gs with
 | nil=>
  clear he;go_enter func89,ntmps89;go_wp2_with fail;go_ret;exact⟨_,rfl,⟨rfl,by decide⟩,HB.out _⟩
 | cons g r=>
  obtain⟨b,o,e,rfl,hb,_,hce,z,hz,gd,rfl⟩:=he 0 g rfl;have h0:w.cell? ⟨b,o,none⟩=some (.string z):=by have:=hce 0 _ rfl;simpa using this
  have HZ:=jq hz;clear he hce hz;simp only[List.length_cons] at hc |-;obtain⟨n,hn⟩:=aaK r.length;rw[hn] at hc |-;clear hn;have h5:(0:Int)<((n+1:Nat):Int):=by omega
  have h6:(((n+1:Nat):Int) == 0)=false:=by simp only[beq_eq_false_iff_ne,ne_eq];omega
  go_enter func89,ntmps89;go_wp2_with fail;go_ret;exact⟨_,rfl,⟨HZ.out,gd⟩,HB.out _⟩
structure Np.NextOk(x:Np.DSet):Prop where
 val:Np.bi x=true
 typ:x.type=8
theorem iw.later{w w':World}{e:List Value}{x:Np.DSet}(h:iw w w.heap.size e x)(hb:Below w.heap.size w w'):iw w' w'.heap.size e x:=bsY _ _ _ _ _ (UC _ _ _ _ _ h hb) hb.size
theorem aG(w:World)(o:Obj):Below w.heap.size w (w.alloc o):=(vQ _ _).alloc (bQ _) o

def VT{α:Type}(R:aDQ α)(sz:Nat)(l:List α)(w:World)(e:Ending)(w':World):Prop:=∃ v',e = .returned v'/\SlR R sz w' w'.heap.size v' l/\Below w.heap.size w w'
theorem Ca{α:Type}{p:α->Bool}{xs:List α}{k:Nat}(ag:k<xs.length):(xs.take (k+1)).filter p=(xs.take k).filter p++if p xs[k] then [xs[k]] else []:=by
 rw[fQ ag,List.filter_append];congr 1;rw[List.filter_cons];split<;>simp
def vN(w:World)(B:Nat)(xs:List Value):Prop:=∀ j x,xs[j]?=some x->w.cell? ⟨B,j,none⟩=some x/\w.frozen? ⟨B,j,none⟩=false
theorem vN.keep{w w':World}{B n:Nat}{xs:List Value}(h:vN w B xs)(hb:Below n w w')(hB:B<n):vN w' B xs:=λj x hx=>by
 obtain⟨h3,h4⟩:=h j x hx;exact⟨(hb.cell (p:=⟨B,j,none⟩) hB).trans h3,(hb.frozen (p:=⟨B,j,none⟩) hB).trans h4⟩
theorem vN.store{w:World}{B:Nat}{xs:List Value}(h:vN w B xs){k:Nat}(hk:k<xs.length)(u:Value):vN (w.setCell ⟨B,k,none⟩ u) B (xs.set k u):=λj x hx=>by
 rw[List.getElem?_set] at hx;by_cases uZ:k=j
 ·subst uZ;rw[QbQ rfl,QbQ hk] at hx
  cases hx
  obtain⟨h3,h4⟩:=h k _ (aQ hk);exact⟨by simp[World.cell?_setCell_same,h3],(World.frozen?_setCell _ _ _ _).trans h4⟩
 ·rw[Qc uZ] at hx;obtain⟨h3,h4⟩:=h j x hx;exact⟨by rw[xQ _ _ _ _ (by simp<;>omega)];exact h3,(World.frozen?_setCell _ _ _ _).trans h4⟩
def lO(R n k:Nat)(ds:List Np.Datum)(w:World):Prop:=∃ xs:List Value,vN w R xs/\xs.length=2 * n/\∀ (j:Nat) (d:Np.Datum),j<k->ds[j]?=some d->xs[2 * j]?=some (.int .i64 d.n)/\xs[2 * j+1]?=some (.int .i64 d.m)
theorem lO.keep{R n k N:Nat}{ds:List Np.Datum}{w w':World}(h:lO R n k ds w)(hb:Below N w w')(hR:R<N):lO R n k ds w':=by
 obtain⟨xs,h1,h2⟩:=h;exact⟨xs,h1.keep hb hR,h2⟩
theorem lO.store{R n k:Nat}{ds:List Np.Datum}{w:World}(h:lO R n k ds w)(hk:k<n){d:Np.Datum}(hd:ds[k]?=some d):lO R n (k+1) ds ((w.setCell ⟨R,k * 2,none⟩ (.int .i64 d.n)).setCell ⟨R,k * 2+1,none⟩ (.int .i64 d.m)):=by
 obtain⟨xs,h1,h2,h3⟩:=h;refine⟨(xs.set (k * 2) (.int .i64 d.n)).set (k * 2+1) (.int .i64 d.m),(h1.store (by omega) _).store (by simp;omega) _,by simp[h2],λj e hj he=>?_⟩;rw[List.getElem?_set,List.getElem?_set,List.getElem?_set,List.getElem?_set];by_cases uY:j=k
 ·subst uY;rw[hd] at he;cases he;rw[Qc (by omega),QbQ (by omega),QbQ (by omega),QbQ (by omega),QbQ (by simp;omega)];exact⟨rfl,rfl⟩
 ·obtain⟨h4,h5⟩:=h3 j e (by omega) he;rw[Qc (by omega),Qc (by omega),Qc (by omega),Qc (by omega)];exact⟨h4,h5⟩
theorem lO.slr{R n:Nat}{ds:List Np.Datum}{w:World}(h:lO R n n ds w)(hn:ds.length=n)(hR:R<w.heap.size)(h9:n<=1000):SlR kK 2 w w.heap.size (.slice (some ⟨R,0,none⟩) n n) (ds.map λd=>⟨d.n,d.m⟩):=by
 obtain⟨xs,h1,h2,h3⟩:=h;have hl:(ds.map λd=>(⟨d.n,d.m⟩:Np.Key)).length=n:=by rw[List.length_map,hn]
 refine⟨_,n,by rw[hl],by rw[hl];exact bQ _,by rw[hl];omega,λj k hk=>?_⟩;rw[List.getElem?_map] at hk
 cases hd:ds[j]? with
 | none=>rw[hd] at hk;cases hk
 | some d=>
  rw[hd] at hk;cases hk;have hj:=(cQ.1 hd).1;obtain⟨h4,h5⟩:=h3 j d (by omega) hd;refine⟨R,0,[.int .i64 d.n,.int .i64 d.m],rfl,hR,rfl,λi v hv=>?_,rfl⟩
  match i,hv with
  | 0,hv=>cases hv;have:=(h1 _ _ h4).1;rw[show 0+j * 2+0=2 * j by omega];exact this
  | 1,hv=>cases hv;have:=(h1 _ _ h5).1;rw[show 0+j * 2+1=2 * j+1 by omega];exact this
theorem Tryz.infoKeyV:(prog.info? 53).map (λi=>(i.zero,i.size,i.bytes))=some (some (.agg #[.int .i64 0,.int .i64 0]),2,16):=by kernel_rfl
theorem bdK(n:Nat)(hn:n<=20000)(w:World):(Instr.makeSlice 46 (.int .i64 n) (.int .i64 n)).run prog w = .ok (.slice (some ⟨w.heap.size,0,none⟩) n n) (w.alloc (.cells (madeCells #[Value.int .i64 0,Value.int .i64 0] (n * 2)) 53)):=by
 obtain⟨i,hi,hp⟩:=Option.map_eq_some_iff.1 Tryz.infoKeyV;simp only[Prod.mk.injEq] at hp;obtain⟨hz,hs,hb⟩:=hp
 have:=run_make (P:=prog) w 46 53 i (.agg #[.int .i64 0,.int .i64 0]) underlying46 hi hz .i64 .i64 n n (by omega) (Int.le_refl _) (by rw[hb];omega) (by omega)
 rw[hs] at this;simpa [Value.cells] using this
theorem bdQ(n j:Nat)(hj:j<n):(madeCells #[Value.int .i64 0,Value.int .i64 0] n)[j]?=some (.int .i64 0):=by
 unfold madeCells
 have:j % 2=0\/j % 2=1:=by omega
 rcases this with h | h<;>simp[hj,h]
theorem a8Q{R n:Nat}{ds:List Np.Datum}{w1 w2:World}{Z:Array Value}{T:TypeId}(hZ:∀ j,j<n * 2->Z[j]?=some (.int .i64 0))(bG:w1.heap.size=R)(ar:w1.alloc (.cells Z T)=w2):lO R n 0 ds w2:=by
 refine⟨List.replicate (2 * n) (.int .i64 0),λj u hj=>?_,by simp,λj d hj=>by omega⟩;rw[List.getElem?_replicate] at hj;split at hj
 ·rename_i F0
  cases hj
  have h1:=heap_alloc_new w1 (.cells Z T);rw[ar,bG] at h1;refine⟨?_,by simp[World.frozen?,h1]⟩;unfold World.cell?;dsimp only;rw[h1];simpa using hZ j (by omega)
 ·cases hj
def VR(ds:List Np.Datum)(w:World)(e:Ending)(w':World):Prop:=∃ R n,e = .returned (.slice (some ⟨R,0,none⟩) n n)/\w.heap.size<=R/\R<w'.heap.size/\ds.length=n/\lO R n n ds w'/\Below w.heap.size w w'
theorem TI(x:Np.DSet)(h9:x.data.length<=1000)(e:List Value)(w:World)(he:iw w w.heap.size e x) :
 Calls prog 126 #[.agg e.toArray] w (VR x.data w):=by
 obtain⟨s,v,hs,aB,hd,rfl⟩:=he;obtain⟨A,n,c,rfl,hn,_,_⟩:=cE hd;have HD:=jq hd;have HN:=jq hn;have KL:n<=1000:=by omega
 have fd:=bdK n (by omega);have HZ:Hid (∀ j,j<n * 2->(madeCells #[Value.int .i64 0,Value.int .i64 0] (n * 2))[j]?=some (.int .i64 0)):=jq (λj hj=>bdQ _ _ hj);have Jh:Hid ((madeCells #[Value.int .i64 0,Value.int .i64 0] (n * 2)).size=n * 2):=jq (by simp[madeCells]);generalize madeCells #[Value.int .i64 0,Value.int .i64 0] (n * 2)=Z at fd HZ Jh;clear hs hd hn;go_enter func126,ntmps126;go_wp2_with fail;obtain⟨R,hR⟩:=aaK (w.heap.size+1);have tX:w.heap.size<R:=by omega
 obtain⟨w1,ah⟩:=aaK (w.alloc (.cells #[.string s,.int .i64 x.type,.int .i64 x.life,.slice A n c] 25));have bG:w1.heap.size=R:=by rw[<-ah,<-hR];simp
 obtain⟨w2,ar⟩:=aaK (w1.alloc (.cells Z 53));have Q6:Below w.heap.size w w2:=by rw[<-ar,<-ah];exact (blAl).alloc (by simp) _
 have bL:R<w2.heap.size:=by rw[<-ar];simp[bG]
 have Ck:lO R n 0 x.data w2:=a8Q HZ.out bG ar;have gL:=jq Ck;have am:=jq Q6;rw[ah,ar,hR];clear ah ar fd HZ Jh Ck Q6 bG;go_loopw [13] (λi wr=>∃ k:Nat,k<=n/\i = .int .i64 k/\R<wr.heap.size/\Hid (lO R n k x.data wr)/\Hid (Below w.heap.size w wr)) (λi _=>n - (intOf i).toNat)
 case atStart=>exact⟨0,jQ _,rfl,bL,gL,am⟩
 case round=>
  obtain⟨k,hk,rfl,vz,HK,HB⟩:=hrel;obtain⟨ws,rfl⟩:=aaX wr;by_cases ag:k<n
  ·obtain⟨d,hd⟩:∃ d,x.data[k]?=some d:=⟨_,aQ (by rw[HN.out];exact ag)⟩;obtain⟨b,o,c',t,hA,hb,_,_,_,c0,c1,c2⟩:=B9 (HD.out.keep bM HB.out) hd;simp only[Value.slice.injEq] at hA;obtain⟨rfl,-,rfl⟩:=hA;have H7:=jq hd;have df:=kNN k;have dg:(k:Int)<(n:Int):=by omega
   have hwR:ws.heap.size≠R:=by omega
   obtain⟨wy,xX⟩:=aaK (ws.alloc (.cells #[.string t,.int .i64 d.n,.int .i64 d.m] 75));have gt:Below ws.heap.size ws wy:=by rw[<-xX];exact aG _ _
   have hKy:=HK.out.keep gt vz;obtain⟨xs,pr,vx,_⟩:=hKy;obtain⟨h3,f3⟩:=pr (k * 2) _ (aQ (by omega));obtain⟨h4,f4⟩:=pr (k * 2+1) _ (aQ (by omega));generalize xs[k * 2]'(by omega)=u3 at h3;generalize xs[k * 2+1]'(by omega)=u4 at h4;have XJ:=jq (HK.out.keep gt vz);have AU:=jq (HB.out.trans (gt.mono HB.out.size));have Dx:R<wy.heap.size:=by have:=gt.size;omega
   have Ae:=de (r:=[.string t,.int .i64 d.n,.int .i64 d.m]) rfl xX;have y1:=Ae 1 _ rfl;have y2:=Ae 2 _ rfl;clear hd gt pr Ae;go_wp2_with fail;go_roundw
   case rel=>exact⟨k+1,by omega,by go_num,by simp[World.setCell];omega,jq (XJ.out.store ag H7.out),jq ((AU.out.blSe (p:=⟨R,k * 2,none⟩) _).blSe (p:=⟨R,k * 2+1,none⟩) _)⟩
   ·simp[intOf]<;>omega
  ·obtain rfl:k=n:=by omega
   go_wp2_with fail;go_ret;exact⟨R,k,rfl,by omega,vz,HN.out,HK.out,HB.out⟩
theorem TH(x:Np.DSet)(h9:x.data.length<=1000)(e:List Value)(w:World)(he:iw w w.heap.size e x) :
 Calls prog 126 #[.agg e.toArray] w (VT kK 2 (Np.kp x) w):=
 (TI x h9 e w he).mono λ_ _ ⟨_,_,he,_,h2,hn,hk,hb⟩=>⟨_,he,hk.slr hn h2 (by omega),hb⟩
end
namespace Np
theorem akQ{a:List UInt8}(h:ai a=true):∀ x∈bI a,x≠[]:=λx hx=>by
 unfold bI at hx;split at hx
 ·cases hx
 ·rename_i hr;rw[yt,Qc hr] at h;split at h
  ·cases h
  ·simp only[Bool.and_eq_true] at h;have h1:=h.1;have hx':x∈be a:=List.mem_reverse.1 hx
   cases hs:be a with
   | nil=>rw[hs] at hx';cases hx'
   | cons y r=>
    rw[hs] at h1 hx';simp only[iE,Bool.and_eq_true,List.all_eq_true,Bool.or_eq_true,beq_iff_eq] at h1;rcases List.mem_cons.1 hx' with rfl | hx'
    ·rcases h1.1 with h1 | h1
     ·exact LG h1
     ·rw[h1];simp
    ·exact LG (h1.2 x hx')
end Np
section
open Go.RowKit Go.Shelf
attribute [local go_sem] Oper.semAt_some
end
section
open Go.RowKit Go.Shelf
theorem Np.TP{xs:List (List UInt8)}{k:Nat}{x:List UInt8}(hx:xs[k]?=some x)(h:Np.cD x=false)(hk:0<k\/x≠[42]):Np.iE xs=false:=by
 cases xs with
 | nil=>simp at hx
 | cons y r=>
  rw[Bool.eq_false_iff];intro h1;simp only[Np.iE,Bool.and_eq_true,List.all_eq_true,Bool.or_eq_true,beq_iff_eq] at h1
  cases k with
  | zero=>
   simp at hx;subst hx;rcases h1.1 with h2 | h2
   ·rw[h] at h2;cases h2
   ·rcases hk with hk | hk
    ·omega
    ·exact hk h2
  | succ k=>
   have:=h1.2 x (gQ (by simpa using hx))
   rw[h] at this;cases this
theorem Np.a7X{xs:List (List UInt8)}(hne:xs≠[])(hx:∀ x∈xs,x≠[]/\46∉x):Np.ai (Np.dm xs)=(decide (xs.length<=8)&&(Np.iE xs&&decide ((Np.dm xs).length<=60))):=by
 have hs:=Np.U0 xs hne λx h=>(hx x h).2;rw[Np.yt,Qc (λe=>by
  rw[e] at hs
  have:([]:List UInt8)∈xs:=by rw[<-hs];simp[Np.be]
  exact (hx _ this).1 rfl),hs]
 split
 ·rw[show decide ((Np.dm xs).length<=60)=false from acY,Bool.and_false,Bool.and_false]
 ·rw[show decide ((Np.dm xs).length<=60)=true from adQ,Bool.and_true,Bool.and_comm]
def qY(xs:List (List UInt8)):Value:=if Np.ai (Np.dm xs) then .tuple #[.string ⟨(Np.dm xs).toArray⟩,.int .i64 0] else .tuple #[.string ⟨#[]⟩,.int .i64 11]
theorem a7J(b o c:Nat)(ss:List ByteArray)(n:Nat)(hn:ss.length=n)(h0:0<n)(KL:n<=1000)(hs:∀ s∈ss,s.size<=1000)(hd:∀ s∈ss,s.data.toList≠[]/\46∉s.data.toList)(w:World)(hc:∀ (j:Nat) x,ss[j]?=some x->w.cell? ⟨b,o+j,none⟩=some (.string x))(hb:b<w.heap.size)(Kp:n<=c) :
 Calls prog 212 #[.slice (some ⟨b,o,none⟩) n c] w (aCX w.heap.size w (qY (ss.map (·.data.toList)))):=by
 have KF:=Np.a7X (xs:=ss.map (·.data.toList)) (by intro k0;have:=Qd List.length k0;rw[List.length_map,hn] at this;simp at this;omega) (λx hx=>by obtain⟨s,h1,rfl⟩:=List.mem_map.1 hx;exact hd s h1);rw[List.length_map,hn] at KF;have Ev:=jq KF;clear KF hd;have HN:=jq hn;have HS:=jq hs;have HC:=jq hc;have HB:=jq hb;clear hn hs hc hb;have h0i:(n:Int)≠0:=by omega
 go_enter func212,ntmps212;by_cases h8:8<n
 ·have h8i:(8:Int)<(n:Int):=by omega
  clear h8;go_wp2_with fail;go_ret2;exact⟨by rw[qY,Ev.out,show decide (n<=8)=false from tQ (by omega)];rfl,vQ _ _⟩
 ·have hd8:decide ((8:Int)<(n:Int))=false:=acY;have FQ:((n:Int) == 0)=false:=by simpa using h0i
  go_wp2_with fail;go_loopw [15] (λi wr=>∃ k:Nat,k<=n/\i = .int .i64 k/\wr=w/\Hid (Np.iE ((ss.take k).map (·.data.toList))=true)) (λi _=>n - (intOf i).toNat)
  case atStart=>exact⟨0,by omega,rfl,rfl,jq rfl⟩
  case round=>
   obtain⟨k,hk,rfl,rfl,HL⟩:=hrel;by_cases ag:k<n
   ·obtain⟨s,vr⟩:∃ s,ss[k]?=some s:=⟨_,aQ (by rw[HN.out];exact ag)⟩;have c0:=HC.out k s vr;have aT:=HB.out;have Gf:=HS.out s (gQ vr);have df:=kNN k;have dg:(k:Int)<(n:Int):=by omega
    have hkc:k<c:=by omega
    have HT:Hid ((ss.take (k+1)).map (·.data.toList)=(ss.take k).map (·.data.toList) ++ [s.data.toList]):=jq (by
     obtain⟨hl,he⟩:=cQ.1 vr;rw[fQ hl,he,List.map_append];rfl)
    have BJ:=jq vr;have vY:Hid (k=0->(ss.take k).map (·.data.toList) = []):=jq (by rintro rfl;rfl);clear vr;by_cases hl:Np.cD s.data.toList=true
    ·have iq:=jq hl;clear hl;go_wp2_with fail;refine (Dy s (by omega) _).mono ?_;rintro e w1 ⟨rfl,rfl⟩;rw[iq.out];go_wp2_with fail;go_roundw
     case rel=>exact⟨k+1,by omega,by go_num,trivial,jq (by rw[HT.out];exact TN HL.out (.inl iq.out))⟩
     ·simp[intOf]<;>omega
    ·have iq:Hid (Np.cD s.data.toList=false):=jq (by simpa using hl);clear hl;by_cases ik:k=0
     ·subst ik;have c1:wr.cell? ⟨b,o,none⟩=some (.string s):=c0;by_cases aH:s=(⟨#[42]⟩:ByteArray)
      ·obtain rfl:(⟨#[42]⟩:ByteArray)=s:=aH.symm;go_wp2_with fail;refine (Dy (⟨#[42]⟩:ByteArray) (by decide) _).mono ?_;rintro e w1 ⟨rfl,rfl⟩;rw[iq.out];go_wp2_with fail;go_roundw
       case rel=>exact⟨1,by omega,by go_num,trivial,jq (by rw[HT.out];exact TN HL.out (.inr ⟨rfl,rfl⟩))⟩
       ·simp[intOf]<;>omega
      ·have ga:(s.toList == [42])=false:=by
        simp only[beq_eq_false_iff_ne,ne_eq];intro h;rw[dQ] at h;exact aH (iV h)
       have gl:Hid (s.data.toList≠[42]):=jq (λh=>aH (iV h));clear aH;go_wp2_with fail;refine (Dy s (by omega) _).mono ?_;rintro e w1 ⟨rfl,rfl⟩;rw[iq.out];go_wp2_with fail;go_ret2;exact⟨by rw[qY,Ev.out,Np.TP (k:=0) (by rw[List.getElem?_map,BJ.out];rfl) iq.out (.inr gl.out),Bool.false_and,Bool.and_false];rfl,vQ _ _⟩
     ·have hkp:(0:Int)<(k:Int):=by omega
      clear ik;go_wp2_with fail;refine (Dy s (by omega) _).mono ?_;rintro e w1 ⟨rfl,rfl⟩;rw[iq.out];go_wp2_with fail;go_ret2;exact⟨by rw[qY,Ev.out,Np.TP (k:=k) (by rw[List.getElem?_map,BJ.out];rfl) iq.out (.inl (by omega)),Bool.false_and,Bool.and_false];rfl,vQ _ _⟩
   ·obtain rfl:k=n:=by omega
    clear ag;have hlen:(Np.dm (ss.map (·.data.toList))).length<=8 * 1001:=by
     refine yQ (a7Z (M:=1000) _ (λx hx=>?_)) ?_
     ·obtain⟨s,h1,rfl⟩:=List.mem_map.1 hx
      have:=HS.out s h1
      rw[bO];exact this
     ·rw[List.length_map,HN.out];exact Nat.mul_le_mul_right _ (by omega)
    have gy:=jq hlen;have cV:Hid (Np.iE (ss.map (·.data.toList))=true):=jq (by have:=HL.out;rw[kQ (by rw[HN.out];omega)] at this;exact this);clear hlen;have hj:=Tryz.strings_Join b o c ss ⟨#[46]⟩ wr HC.out HB.out (by rw[HN.out];omega) (by rw[HN.out];exact Kp) (by
     show (Lib.join _ [46]).length<=_;rw[TF]
     have:=gy.out
     omega)
    rw[HN.out] at hj;have HJ:=jq hj;clear hj;go_wp2_with fail;refine HJ.out.mono ?_;rintro e w1 ⟨rfl,hb⟩;have ay:=jq hb;clear hb;obtain⟨J,hJ⟩:∃ J:ByteArray,(⟨(Lib.join (ss.map (·.data.toList)) (⟨#[46]⟩:ByteArray).data.toList).toArray⟩:ByteArray)=J:=⟨_,rfl⟩;rw[hJ];have yO:Hid (J.data.toList=Np.dm (ss.map (·.data.toList))):=jq (by
     rw[<-hJ];show Lib.join _ [46]=_;rw[TF])
    clear hJ;have tl:J.size<=8008:=by rw[<-bO,yO.out];exact gy.out
    by_cases qh:J.size<=60
    ·have aDK:(J.size:Int)<=60:=by omega
     have HV:Hid (Np.ai J.data.toList=true):=jq (by
      rw[yO.out];exact Np.a7Y (by intro k0;have:=Qd List.length k0;rw[List.length_map,HN.out] at this;simp at this;omega) (by rw[List.length_map,HN.out];omega) cV.out (by rw[<-yO.out,bO];exact qh))
     clear qh;go_wp2_with fail;go_ret2;exact⟨by rw[qY,QbQ (by rw[<-yO.out];exact HV.out),<-yO.out,Jz];rfl,ay.out⟩
    ·have aDK:(60:Int)<(J.size:Int):=by omega
     clear qh;go_wp2_with fail;go_ret2;exact⟨by rw[qY,Ev.out,<-yO.out,bO,show decide (J.size<=60)=false from acY,Bool.and_false,Bool.and_false];rfl,ay.out⟩
theorem a7K(A:Option Addr)(n c:Nat)(xs:List (List UInt8))(hn:xs.length=n)(h0:0<n)(KL:n<=1000)(hs:∀ x∈xs,x.length<=1000)(hd:∀ x∈xs,x≠[]/\46∉x)(w:World)(h:SlR RTx 1 w w.heap.size (.slice A n c) xs) :
 Calls prog 212 #[.slice A n c] w (aCX w.heap.size w (qY xs)):=by
 obtain⟨A',c',hA,hc,_,he⟩:=h;simp only[Value.slice.injEq] at hA;obtain⟨rfl,-,rfl⟩:=hA;obtain⟨x0,gK⟩:∃ x,xs[0]?=some x:=⟨_,aQ (by omega)⟩;obtain⟨b,o,_,rfl,hb,_,_,_⟩:=he 0 x0 gK;have iP:(xs.map λx=>(⟨x.toArray⟩:ByteArray)).map (·.data.toList)=xs:=by rw[List.map_map];exact List.map_id xs
 have:=a7J b o c (xs.map λx=>⟨x.toArray⟩) n (by rw[List.length_map,hn]) h0 KL (λs hm=>?_) (λs hm=>?_) w (λj s hj=>?_) hb (by omega)
 ·rw[iP] at this;exact this
 ·obtain⟨x,hx,rfl⟩:=List.mem_map.1 hm;exact hs x hx
 ·obtain⟨x,hx,rfl⟩:=List.mem_map.1 hm;exact hd x hx
 ·rw[List.getElem?_map] at hj
  cases Lu:xs[j]? with
  | none=>rw[Lu] at hj;cases hj
  | some x=>
   rw[Lu] at hj
   cases hj
   obtain⟨b',o',e,hA,_,_,hce,s,xU,_,rfl⟩:=he j x Lu
   cases hA
   have h1:=hce 0 _ rfl;rw[show o+j * 1+0=o+j by omega] at h1;rw[h1];congr 2;exact iV (by rw[xU])
theorem Tryz.infoStrV:(prog.info? 9).map (λi=>(i.zero,i.size,i.bytes))=some (some (.string ⟨#[]⟩),1,16):=by kernel_rfl
theorem biJ(w:World)(s:ByteArray)(hs:s.size<=140737488355328):bS RTx 1 9 w.heap.size w.heap.size (w.alloc (.cells #[.string s] 9)) (.slice (some ⟨w.heap.size,0,none⟩) 1 1) [s.data.toList]:=
 ⟨[[.string s]],rfl,World.ownsRow_lit w #[.string s] 1 (bQ _) (by simp[maxLen]) rfl,λi r x hr hx=>by
   cases i with
   | zero=>
    simp only[List.getElem?_cons_zero,Option.some.injEq] at hr hx;subst hr hx;exact⟨rfl,s,rfl,hs,rfl⟩
   | succ i=>simp at hr⟩
end
section
open Go.RowKit
theorem kr{w:World}{B:Nat}{e:List Value}{x:Np.Signed}(h:az w B e x):∃ (s:ByteArray) (dA:Option Addr) (dn dc:Nat) (gA:Option Addr) (gn gc:Nat),e = [.string s,.int .i64 x.set.type,.int .i64 x.set.life,.slice dA dn dc,.slice gA gn gc]/\s.data.toList=x.set.name/\s.size<=140737488355328/\x.set.data.length=dn/\x.sigs.length=gn/\SlR cm 3 w B (.slice dA dn dc) x.set.data/\SlR en 6 w B (.slice gA gn gc) x.sigs:=by
 obtain⟨s,v,u,hs,hz,hd,hg,rfl⟩:=h;obtain⟨dA,dn,dc,rfl,h1,_,_⟩:=cE hd;obtain⟨gA,gn,gc,rfl,h2,_,_⟩:=cE hg;exact⟨s,dA,dn,dc,gA,gn,gc,rfl,hs,hz,h1,h2,hd,hg⟩
theorem az.later{w w':World}{e:List Value}{x:Np.Signed}(h:az w w.heap.size e x)(hb:Below w.heap.size w w'):az w' w'.heap.size e x:=aK _ _ _ _ _ (ax _ _ _ _ _ h hb) hb.size
def zm(kv:Value)(an:ByteArray)(aty al:Int)(adv:Value)(at' dr:Int):Value:=.agg #[kv,.string an,.int .i64 aty,.int .i64 al,adv,.int .i64 at',.int .i64 dr]
theorem awJ:∀ args w,(callFunc 189 args).run prog w = .ok (.enter 189 args) w:=enters_of func189 (by kernel_rfl) rfl
theorem bFQ(bt bn:Nat)(t:Int)(n:ByteArray)(x:Np.Signed)(e:List Value)(w:World)(he:az w w.heap.size e x)(ct:w.cell? ⟨bt,0,none⟩=some (.int .i64 t))(cn:w.cell? ⟨bn,0,none⟩=some (.string n)) :
 Calls prog 189 #[.agg e.toArray,.pointer (some ⟨bt,0,none⟩),.pointer (some ⟨bn,0,none⟩)] w (aCX w.heap.size w (.bool (decide (x.set.type=t)&&x.set.name == n.data.toList))):=by
 have lt:=World.block_lt_of_cell? w _ ct;have ln:=World.block_lt_of_cell? w _ cn;simp only at lt ln;obtain⟨s,dA,dn,dc,gA,gn,gc,rfl,hs,_,_,_,_,_⟩:=kr he;rw[<-hs];clear hs he;have HB:=jq (aG w);by_cases h1:x.set.type=t
 ·have h2:(x.set.type == t)=true:=by simpa using h1
  have h3:(s.toList == n.toList)=(s.data.toList == n.data.toList):=by rw[dQ,dQ]
  obtain⟨r,hr⟩:=aaK (s.data.toList == n.data.toList);rw[hr] at h3 |-;have H1:=jq h1;clear h1 hr;go_enter func189,ntmps189;go_wp2_with fail;go_ret;exact⟨aj (by rw[uQ H1.out];rfl),HB.out _⟩
 ·have h2:(x.set.type == t)=false:=by simpa using h1
  have H1:=jq h1;clear h1;go_enter func189,ntmps189;go_wp2_with fail;go_ret;exact⟨aj (by rw[tQ H1.out];rfl),HB.out _⟩
theorem Jv{α:Type}(p:α->Bool)(xs:List α):xs.any p=(xs.find? p).isSome:=by
 rw[Bool.eq_iff_iff,List.find?_isSome,List.any_eq_true]
def D0(B:Nat)(known:List Np.Signed)(n:List UInt8)(t:Int)(w:World)(e:Ending)(w':World):Prop:=
 ∃ (s:ByteArray) (a b:Int) (dA:Option Addr) (dn dc:Nat) (gA:Option Addr) (gn gc:Nat),e = .returned (.tuple #[.agg #[.string s,.int .i64 a,.int .i64 b,.slice dA dn dc,.slice gA gn gc],.bool (Np.dF known n t).isSome])/\Below w.heap.size w w'/\
   (∀ x,Np.dF known n t=some x->az w' B [.string s,.int .i64 a,.int .i64 b,.slice dA dn dc,.slice gA gn gc] x)/\(Np.dF known n t=none->s=⟨#[]⟩/\a=0/\b=0/\dA=none/\dn=0/\dc=0/\gA=none/\gn=0/\gc=0)
theorem Mk(kv adv:Value)(known:List Np.Signed)(an n:ByteArray)(aty al at' dr t:Int)(w:World)(B:Nat)(hB:B<=w.heap.size)(hk:SlR az 5 w B kv known)(ha:∃ A n c,adv = .slice A n c) :
 Calls prog 120 #[zm kv an aty al adv at' dr,.string n,.int .i64 t] w (D0 B known n.data.toList t w):=by
 have HK:=jq hk;obtain⟨A,N,C,rfl,_,_,_⟩:=cE hk;obtain⟨aA,an',ac,rfl⟩:=ha;unfold zm;have aq:∀ o1 o2 o3 o4:Obj,Below w.heap.size w ((((w.alloc o1).alloc o2).alloc o3).alloc o4):=λo1 o2 o3 o4=>((((vQ _ w).alloc (bQ _) _).alloc (by simp) _).alloc (by simp;omega) _).alloc (by simp;omega) _;have aw:=jq aq;clear hk aq;go_enter func120,ntmps120;go_wp2_with fail;refine (QH 189 awJ _ (λs=>decide (s.set.type=t)&&s.set.name == n.data.toList) _ known _ B ?_ ?_ ?_).mono ?_
 ·simp;omega
 ·exact HK.out.keep ax ((aw.out _ _ _ _).mono hB)
 ·intro W x e hx hW pf qu;refine bFQ (w.heap.size+1+1) (w.heap.size+1) t n x e W (aK _ _ _ _ _ qu (by simp at pf;omega)) ?_ ?_
  ·rw[hW.cell (by simp<;>omega)];go_simp
  ·rw[hW.cell (by simp<;>omega)];go_simp
 ·rintro e w5 ⟨s,a,b,v,u,rfl,aO,hf,hz⟩;have HF:=jq (λx hx=>ax _ _ _ _ _ (hf x hx) (aO.mono (by simp;omega)));have bx:=jq ((aw.out _ _ _ _).trans (aO.mono (by simp;omega)));have Kf:∃ (dA:Option Addr) (dn dc:Nat) (gA:Option Addr) (gn gc:Nat),v = .slice dA dn dc/\u = .slice gA gn gc/\(Np.dF known n.data.toList t=none->s=⟨#[]⟩/\a=0/\b=0/\dA=none/\dn=0/\dc=0/\gA=none/\gn=0/\gc=0):=by
   cases hk:Np.dF known n.data.toList t with
   | none=>
    have h0:=hz (by rw[Jv];unfold Np.dF at hk;rw[hk];rfl);simp only[List.cons.injEq,Value.string.injEq,Value.int.injEq,true_and,and_true] at h0;obtain⟨rfl,rfl,rfl,rfl,rfl⟩:=h0;exact⟨none,0,0,none,0,0,rfl,rfl,λ_=>⟨rfl,rfl,rfl,rfl,rfl,rfl,rfl,rfl,rfl⟩⟩
   | some x=>
    obtain⟨s',dA,dn,dc,gA,gn,gc,he,_⟩:=kr (hf x hk);simp only[List.cons.injEq,Value.string.injEq,Value.int.injEq,true_and,and_true] at he;obtain⟨rfl,rfl,rfl,rfl,rfl⟩:=he;exact⟨dA,dn,dc,gA,gn,gc,rfl,rfl,λh=>by cases h⟩
  obtain⟨dA,dn,dc,gA,gn,gc,rfl,rfl,h0⟩:=Kf;have H0:=jq h0;have RD:(known.any λs=>decide (s.set.type=t)&&s.set.name == n.data.toList)=(Np.dF known n.data.toList t).isSome:=Jv _ _;rw[RD];obtain⟨q,hq⟩:=aaK ((Np.dF known n.data.toList t).isSome);rw[hq];have HQ:=jq hq;obtain⟨c5,f5⟩:=eh aO;have l5:w.heap.size+1+1+1<w5.heap.size:=by have:=aO.size;simp at this;omega
  clear hf hz h0 RD hq aO;go_wp2_with fail;refine bodyPost_ret (v:=.tuple #[.agg #[.string s,.int .i64 a,.int .i64 b,.slice dA dn dc,.slice gA gn gc],.bool q]) (by simp[results,results120,go_sem,c5]) rfl ?_
  suffices H:∀ W',Below w.heap.size w5 W'->D0 B known n.data.toList t w (.returned (.tuple #[.agg #[.string s,.int .i64 a,.int .i64 b,.slice dA dn dc,.slice gA gn gc],.bool q])) W' by
   refine H _ ?_
   repeat refine Below.setCell ?_ (by simp<;>omega) _
   exact vQ _ _
  exact λW' hW=>⟨s,a,b,dA,dn,dc,gA,gn,gc,by rw[HQ.out],bx.out.trans hW,λx hx=>ax _ _ _ _ _ (HF.out x hx) (hW.mono hB),H0.out⟩
theorem bkK{B:Nat}{w:World}{v:Value}{xs:List (List UInt8)}(h:bS RTx 1 9 B B w v xs)(ty:TypeId)(q:Nat)(s:ByteArray)(hs:s.size<=140737488355328)(hc:∀ j u,[Value.string s][j]?=some u->w.cell? ⟨q,j,none⟩=some u)(hn:xs.length<=1000000)(hb:B<=w.heap.size) :
 ∃ v' w',(Builtin.append_ #[102,102] ty #[v,.slice (some ⟨q,0,none⟩) 1 1]).run prog w = .ok v' w'/\bS RTx 1 9 B B w' v' (xs ++ [s.data.toList])/\Below B w w':=by
 obtain⟨i0,hi,eu,bG,bL⟩:=info_parts Tryz.infoStrV;exact h.push (P:=prog) 102 ty i0 _ 16 underlying102 hi eu bG bL rfl (by decide) (by decide) q _ s.data.toList rfl (λu hu=>by simp at hu;subst hu;rfl) hc ⟨s,rfl,hs,rfl⟩ hn jp (bQ _) hb
theorem Np.bGJ{n z:List UInt8}(h:Np.bA n z=true)(hne:n≠z):Np.ai z=true/\(Np.bC z).length<(Np.bC n).length:=by
 unfold Np.bA at h;simp only[Bool.and_eq_true] at h;refine⟨h.2.1,?_⟩;have hz:z≠[]:=λe=>by rw[e] at h;exact absurd h.2.1 (by decide)
 have h2:=h.2.2;rw[<-Np.py hz,Np.vB] at h2;obtain⟨p,hp⟩:=h2
 have:p≠[]:=λe=>hne (Np.LX (by rw[hp,e];rfl))
 rw[hp,List.length_append]
 have:=List.length_pos_iff.2 this
 omega
def VU(res:List (List UInt8)×Np.oh×Int)(w:World)(e:Ending)(w':World):Prop:=
 ∃ (v:Value) (qn:ByteArray),e = .returned (.tuple #[v,.agg #[.string qn,.int .i64 res.2.1.2],.int .i64 res.2.2])/\qn.data.toList=res.2.1.1/\qn.size<=140737488355328/\SlR RTx 1 w' w'.heap.size v res.1/\Below w.heap.size w w'
theorem jO{α:Type}{R:aDQ α}{sz:Nat}(w:World)(B:Nat):SlR R sz w B (.slice none 0 0) ([]:List α):=⟨none,0,rfl,by simp,by simp,λi x h=>by simp at h⟩
def Np.mq(pre:List (List UInt8))(r:List (List UInt8)×Np.oh×Int):List (List UInt8)×Np.oh×Int:=if r.2.2=0 then (pre++r.1,([],0),0) else ([],r.2.1,r.2.2)
theorem Np.Vl(known:List Np.Signed):∀ (k:Nat) (n:List UInt8),((Np.da known k n).2.2=0->(Np.da known k n).2.1=([],0))/\((Np.da known k n).2.2≠0->(Np.da known k n).1 = [])
 | 0,n=>by simp[Np.da]
 | k+1,n=>by
   unfold Np.da;split
   ·simp
   ·split
    ·simp
    ·split
     ·simp
     ·split
      ·simp
      ·dsimp only;split<;>simp_all
theorem Np.bLK(known:List Np.Signed)(k:Nat)(n:List UInt8):Np.mq [] (Np.da known k n)=Np.da known k n:=by
 obtain⟨h1,h2⟩:=Np.Vl known k n;unfold Np.mq;generalize Np.da known k n=r at h1 h2;obtain⟨l,q,e⟩:=r;dsimp only at h1 h2 |-;split
 ·rename_i he;rw[h1 he,he];rfl
 ·rename_i he;rw[h2 he]
theorem Np.bLY(known:List Np.Signed)(pre:List (List UInt8))(k:Nat):Np.mq pre (Np.da known (k+1) [46])=(pre ++ [[46]],([],0),0):=by
 unfold Np.mq Np.da;simp
theorem Np.bLX{known:List Np.Signed}{n:List UInt8}(pre:List (List UInt8))(k:Nat)(hr:n≠[46])(h:Np.dF known n 6=none):Np.mq pre (Np.da known (k+1) n)=([],(n,6),4):=by
 unfold Np.mq Np.da;rw[Qc hr,h];simp
theorem Np.bLJ{known:List Np.Signed}{n:List UInt8}{s:Np.Signed}(pre:List (List UInt8))(k:Nat)(hr:n≠[46])(h:Np.dF known n 6=some s)(h0:s.sigs = []):Np.mq pre (Np.da known (k+1) n)=([],([],0),31):=by
 have e:Np.da known (k+1) n=([],([],0),31):=by rw[Np.da,Qc hr,h];dsimp only;rw[h0]
 unfold Np.mq;rw[e];simp
theorem Np.Vn{known:List Np.Signed}{n:List UInt8}{s:Np.Signed}{g:Np.Sig}{r:List Np.Sig}(pre:List (List UInt8))(k:Nat)(hr:n≠[46])(h:Np.dF known n 6=some s)(h0:s.sigs=g::r)(hb:(!Np.bA n g.zone||n == g.zone)=true):Np.mq pre (Np.da known (k+1) n)=([],([],0),31):=by
 have e:Np.da known (k+1) n=([],([],0),31):=by rw[Np.da,Qc hr,h];dsimp only;rw[h0];dsimp only;rw[QbQ hb]
 unfold Np.mq;rw[e];simp
theorem Np.bMQ{known:List Np.Signed}{n:List UInt8}{s:Np.Signed}{g:Np.Sig}{r:List Np.Sig}(pre:List (List UInt8))(k:Nat)(hr:n≠[46])(h:Np.dF known n 6=some s)(h0:s.sigs=g::r)(hb:(!Np.bA n g.zone||n == g.zone)=false):Np.mq pre (Np.da known (k+1) n)=Np.mq (pre ++ [n]) (Np.da known k g.zone):=by
 have e:Np.da known (k+1) n=match Np.da known k g.zone with | (l,q,e)=>if e=0 then (n::l,([],0),0) else ([],q,e):=by
  rw[Np.da,Qc hr,h];dsimp only;rw[h0];dsimp only;rw[Qc (by rw[hb];simp)]
 rw[e];generalize Np.da known k g.zone=W;obtain⟨l,q,e⟩:=W;unfold Np.mq;dsimp only;by_cases he:e=0
 ·simp[he]
 ·simp[he]
theorem af{w:World}{X:Nat}(l:List Value){T:TypeId}(h:w.heap[X]?=some (.cells l.toArray T (0,0))):∀ (i:Nat) v,l[i]?=some v->w.cell? ⟨X,i,none⟩=some v:=λi v hi=>by
 unfold World.cell?;dsimp only;rw[h];simpa using hi
theorem bS.low{α:Type}{R:aDQ α}{sz:Nat}{e:TypeId}{base B:Nat}{w w':World}{v:Value}{xs:List α}(h:bS R sz e base B w v xs)(hr:∀ r x,R w B r x->R w' B r x)(hb:∀ g,base<=g->w'.heap[g]?=w.heap[g]?):bS R sz e base B w' v xs:=by
 obtain⟨rows,h1,h2,h3⟩:=h;exact⟨rows,h1,ra h2 (λg hg=>hb g (h2.lt g hg).1),λi r x hr' hx=>⟨(h3 i r x hr' hx).1,hr _ _ (h3 i r x hr' hx).2⟩⟩
def bEQ:Value->List UInt8
 | .string s=>s.data.toList
 | _=>[]
theorem bMZ(kv adv:Value)(known:List Np.Signed)(an zone:ByteArray)(aty al at' dr:Int)(Gj:Np.ai zone.data.toList=true)(w:World)(hk:SlR az 5 w w.heap.size kv known)(ha:∃ A n c,adv = .slice A n c) :
 Calls prog 53 #[zm kv an aty al adv at' dr,.string zone] w (VU (Np.da known 10 zone.data.toList) w):=by
 have HK:=jq hk;have HA:=jq ha;obtain⟨A,N,C,rfl,_,_,_⟩:=cE hk;obtain⟨aA,aN,aC,rfl⟩:=ha;obtain⟨RES,gp⟩:=aaK (Np.da known 10 zone.data.toList);rw[gp];have cR:Hid (RES=Np.mq [] (Np.da known 10 zone.data.toList)):=jq (by rw[Np.bLK,gp]);have a1J:=nS Gj;have sZ:=jq Gj;have KS:(Np.bC zone.data.toList).length<=8:=by
  have h1:=D.Jw Gj;rwa [<-Np.oI,List.length_reverse] at h1
 unfold zm;obtain⟨w1,ah⟩:=aaK (w.alloc (.cells #[.slice A N C,.string an,.int .i64 aty,.int .i64 al,.slice aA aN aC,.int .i64 at',.int .i64 dr] 101));have z1:w1.heap.size=w.heap.size+1:=by rw[<-ah];simp
 obtain⟨w0,fw⟩:=aaK (w1.alloc (.cells #[.string ⟨#[]⟩,.int .i64 0] 27));have z0:w0.heap.size=w.heap.size+1+1:=by rw[<-fw];simp[z1]
 have oj:Below w.heap.size w w0:=by rw[<-fw,<-ah];exact (blAl).alloc (by simp) _
 have av:Below w1.heap.size w1 w0:=by rw[<-fw];exact aG _ _
 have vy:=de (r:=[.slice A N C,.string an,.int .i64 aty,.int .i64 al,.slice aA aN aC,.int .i64 at',.int .i64 dr]) rfl ah;have fk:Hid (∀ wz,Below w0.heap.size w0 wz->∀ (j:Nat) u,[Value.slice A N C,.string an,.int .i64 aty,.int .i64 al,.slice aA aN aC,.int .i64 at',.int .i64 dr][j]?=some u->wz.cell? ⟨w.heap.size,j,none⟩=some u):=jq (λwz hb j u hj=>aaQ hb ((cl av (by omega)).trans (vy j u hj)));have Rq:w0.heap[w.heap.size+1]?=some (.cells #[.string ⟨#[]⟩,.int .i64 0] 27 (0,0)):=by
  have:=heap_alloc_new w1 (.cells #[.string ⟨#[]⟩,.int .i64 0] 27)
  rwa [fw,z1] at this
 have nZ:=jq Rq;have aD:=jq oj;obtain⟨wb,eP⟩:=aaK (w0.alloc (.cells #[.string zone] 9));have HO:Hid (bS RTx 1 9 (w.heap.size+1+1) (w.heap.size+1+1) wb (.slice (some ⟨w.heap.size+1+1,0,none⟩) 1 1) ([] ++ [zone.data.toList])):=jq (by rw[<-eP,<-z0];exact biJ w0 zone (by omega));have ed:Hid (Below w0.heap.size w0 wb):=jq (by rw[<-eP];exact aG _ _);clear hk Gj gp oj av vy Rq;go_enter func53,ntmps53;go_wp2_with fail;clear fw ah z1;have lb:w.heap.size+1+1<wb.heap.size:=by rw[<-eP];simp[z0]
 have uC:=jq z0;clear z0 eP;go_loopw [7,8] (λwv nv wr=>∃ (k m:Nat) (n:ByteArray) (A':Option Addr) (c':Nat) (pre:List (List UInt8)),nv = .string n/\wv = .slice A' m c'/\n.size<=60/\(Np.bC n.data.toList).length<k/\m+k=11/\Hid (Np.ai n.data.toList=true)/\Hid (RES=Np.mq pre (Np.da known k n.data.toList))/\Hid ((pre ++ [n.data.toList]).length=m)/\Hid (bS RTx 1 9 (w.heap.size+1+1) (w.heap.size+1+1) wr (.slice A' m c') (pre ++ [n.data.toList]))/\Hid (Below w0.heap.size w0 wr)) (λ_ nv _=>(Np.bC (bEQ nv)).length)
 case atStart=>exact⟨10,1,zone,_,1,[],rfl,rfl,a1J,by omega,rfl,sZ,cR,jq rfl,HO,ed⟩
 case round=>
  obtain⟨k,m,n,A',c',pre,rfl,rfl,F5,dU,fd,eN,gL,Ey,ur,HB⟩:=hrel;obtain⟨ws,rfl⟩:=aaX wr;have EO:=jq (aD.out.trans (HB.out.mono aD.out.size));have Cr:ws.heap[w.heap.size+1]?=some (.cells #[.string ⟨#[]⟩,.int .i64 0] 27 (0,0)):=(HB.out.block _ (by have:=uC.out;omega)).trans nZ.out;have Yr:=jq Cr;have q0:=af [_,_] Cr 0 _ rfl;have q1:=af [_,_] Cr 1 _ rfl;have fq:∀ i,ws.frozen? ⟨w.heap.size+1,i,none⟩=false:=λi=>by simp[World.frozen?,Cr]
  clear Cr;by_cases hr:n.data.toList = [46]
  ·have h2:(n.toList == [46])=true:=by rw[dQ,hr];rfl
   have HE:Hid (RES=(pre ++ [n.data.toList],([],0),0)):=jq (by
    obtain⟨k',rfl⟩:∃ k',k=k'+1:=⟨k - 1,by omega⟩;rw[gL.out,hr,Np.bLY])
   have gN:=jq (ur.out.slr Au (by have:=HB.out.size;have:=uC.out;omega) (by rw[Ey.out];omega));clear hr gL;go_wp2_with fail;refine bodyPost_ret (v:=.tuple #[.slice A' m c',.agg #[.string ⟨#[]⟩,.int .i64 0],.int .i64 0]) (by simp[results,results53,go_sem,q0,q1]) rfl ?_;have eu:=uC.out;have gd:=HB.out.size;refine⟨_,⟨#[]⟩,by rw[HE.out],by rw[HE.out],by decide,?_,(EO.out.blSe (p:=⟨w.heap.size+1,0,none⟩) _).blSe (p:=⟨w.heap.size+1,1,none⟩) _⟩;rw[HE.out];refine bS.slr (bS.low ur.out (λr x h=>h) (λg hg=>?_)) Au ?_ (by rw[Ey.out];omega)
   ·simp only[World.setCell,Array.getElem?_modify];rw[Qc (by omega),Qc (by omega)]
   ·simp[World.setCell];omega
  ·have h2:(n.toList == [46])=false:=by rw[dQ];simpa using hr
   have sU:=jq hr;obtain⟨k',rfl⟩:∃ k',k=k'+1:=⟨k - 1,by omega⟩;have f0:=fk.out ws HB.out 0 _ rfl;have f1:=fk.out ws HB.out 1 _ rfl;have f2:=fk.out ws HB.out 2 _ rfl;have f3:=fk.out ws HB.out 3 _ rfl;have f4:=fk.out ws HB.out 4 _ rfl;have f5:=fk.out ws HB.out 5 _ rfl;have f6:=fk.out ws HB.out 6 _ rfl;clear hr q0 q1 fq;go_wp2_with fail;refine (Mk (.slice A N C) (.slice aA aN aC) known an n aty al at' dr 6 ws w.heap.size EO.out.size (HK.out.keep ax EO.out) ⟨_,_,_,rfl⟩).mono ?_;rintro e w3 ⟨s,a,b,dA,dn,dc,gA,gn,gc,rfl,aq,hf,hz⟩;have aw:=jq (HB.out.trans (aq.mono HB.out.size));have fy:=jq aq;have iY:=jq ((aq.block (w.heap.size+1) (by have:=HB.out.size;have:=uC.out;omega)).trans Yr.out);obtain⟨w4,di⟩:=aaK (w3.alloc (.cells #[.string s,.int .i64 a,.int .i64 b,.slice dA dn dc,.slice gA gn gc] 44));have aE:Below w3.heap.size w3 w4:=by rw[<-di];exact aG _ _
   have pw:w3.heap.size<w4.heap.size:=by rw[<-di];simp
   have Th:=de (r:=[.string s,.int .i64 a,.int .i64 b,.slice dA dn dc,.slice gA gn gc]) rfl di;have aX:=jq (aw.out.trans (aE.mono aw.out.size));have sK:=jq (aE.mono (yQ EO.out.size fy.out.size));have iW:=jq (fy.out.trans (aE.mono fy.out.size));have kI:=jq (aD.out.trans (aX.out.mono aD.out.size));have Cq:w4.heap[w.heap.size+1]?=some (.cells #[.string ⟨#[]⟩,.int .i64 0] 27 (0,0)):=(aE.block _ (by have:=aw.out.size;have:=uC.out;omega)).trans iY.out;have mz:=jq Cq;have q0:=af [_,_] Cq 0 _ rfl;have q1:=af [_,_] Cq 1 _ rfl;have fq:∀ i,w4.frozen? ⟨w.heap.size+1,i,none⟩=false:=λi=>by simp[World.frozen?,Cq]
   have y4:=Th 4 _ rfl;have HF:=jq hf;have lG:=jq hz;have eu:=uC.out;have zV:w.heap.size+1<w3.heap.size:=by have:=aw.out.size;omega
   have Jk:=jq eu;obtain⟨O,hO⟩:=aaK (Np.dF known n.data.toList 6);rw[hO];have yV:=jq hO;clear hO Cq Th aE aq hf hz eu f0 f1 f2 f3 f4 f5 f6
   cases O with
   | none=>
    have HE:Hid (RES=([],(n.data.toList,6),4)):=jq (by rw[gL.out,Np.bLX pre k' sU.out yV.out]);clear gL;simp only[Option.isSome_none];go_wp2_with fail;clear di;go_wp2_with fail;refine bodyPost_ret (v:=.tuple #[.slice none 0 0,.agg #[.string n,.int .i64 6],.int .i64 4]) (by simp[results,results53,go_sem,q0,q1]) rfl ?_;exact⟨_,n,by rw[HE.out],by rw[HE.out],by omega,by rw[HE.out];exact jO _ _,(kI.out.blSe (p:=⟨w.heap.size+1,0,none⟩) _).blSe (p:=⟨w.heap.size+1,1,none⟩) _⟩
   | some x=>
    simp only[Option.isSome_some];obtain⟨s',dA',dn',dc',gA',gn',gc',he,_,_,_,nE,_,FX⟩:=kr (HF.out x yV.out);simp only[List.cons.injEq,Value.string.injEq,Value.int.injEq,Value.slice.injEq,true_and,and_true] at he;obtain⟨-,-,-,-,rfl,rfl,rfl⟩:=he;have Xk:=jq (FX.keep dG sK.out)
    cases xE:x.sigs with
    | nil=>
     have mO:gn=0:=by rw[<-nE,xE];rfl
     subst mO;have HE:Hid (RES=([],([],0),31)):=jq (by rw[gL.out,Np.bLJ pre k' sU.out yV.out xE]);clear gL nE xE FX;go_wp2_with fail;clear di;go_wp2_with fail;refine bodyPost_ret (v:=.tuple #[.slice none 0 0,.agg #[.string ⟨#[]⟩,.int .i64 0],.int .i64 31]) (by simp[results,results53,go_sem,q0,q1]) rfl ?_;exact⟨_,⟨#[]⟩,by rw[HE.out],by rw[HE.out],by decide,by rw[HE.out];exact jO _ _,(kI.out.blSe (p:=⟨w.heap.size+1,0,none⟩) _).blSe (p:=⟨w.heap.size+1,1,none⟩) _⟩
    | cons g r=>
     obtain⟨gA',gc',hv',qC,_,nD⟩:=Xk.out;simp only[Value.slice.injEq] at hv';obtain⟨rfl,mO,rfl⟩:=hv';obtain⟨gb,go,ge,rfl,fp,_,hce,z,lp,gd,rfl⟩:=nD 0 g (by rw[xE];rfl);have g0:w4.cell? ⟨gb,go,none⟩=some (.string z):=by have:=hce 0 _ rfl;simpa using this
     have b3Q:0<gn:=by rw[<-nE,xE];simp
     have b3Z:(0:Int)<(gn:Int):=by omega
     have b3J:((gn:Int) == 0)=false:=by simp only[beq_eq_false_iff_ne,ne_eq];omega
     have BR:=jq lp;have Ii:=jq xE;clear mO nD hce lp nE xE FX;go_wp2_with fail;clear di;go_wp2_with fail;refine (T6 n z (by omega) gd w4).mono ?_;rintro e w5 ⟨rfl,aO⟩;have bx:=jq (aX.out.trans (aO.mono aX.out.size));have V9:=jq (iW.out.trans (aO.mono iW.out.size));have wI:=jq (aD.out.trans (bx.out.mono aD.out.size));have Fx:w5.heap[w.heap.size+1]?=some (.cells #[.string ⟨#[]⟩,.int .i64 0] 27 (0,0)):=(aO.block _ (by omega)).trans mz.out;have q05:=af [_,_] Fx 0 _ rfl;have q15:=af [_,_] Fx 1 _ rfl;have fq5:∀ i,w5.frozen? ⟨w.heap.size+1,i,none⟩=false:=λi=>by simp[World.frozen?,Fx]
     have zW:w.heap.size+1<w5.heap.size:=by have:=aO.size;omega
     generalize (if Np.ai n.data.toList&&Np.ai z.data.toList then (0:Int) else 11)=cd;obtain⟨q,hq⟩:=aaK (Np.bA n.data.toList z.data.toList);rw[hq];have HU:Hid (Np.bA n.data.toList g.zone=q):=jq (by rw[<-BR.out];exact hq);clear hq aO Fx q0 q1 fq y4 g0
     cases q with
     | false=>
      have HE:Hid (RES=([],([],0),31)):=jq (by rw[gL.out,Np.Vn pre k' sU.out yV.out Ii.out (by rw[HU.out];rfl)]);clear gL;go_wp2_with fail;refine bodyPost_ret (v:=.tuple #[.slice none 0 0,.agg #[.string ⟨#[]⟩,.int .i64 0],.int .i64 31]) (by simp[results,results53,go_sem,q05,q15]) rfl ?_;exact⟨_,⟨#[]⟩,by rw[HE.out],by rw[HE.out],by decide,by rw[HE.out];exact jO _ _,(wI.out.blSe (p:=⟨w.heap.size+1,0,none⟩) _).blSe (p:=⟨w.heap.size+1,1,none⟩) _⟩
     | true=>
      by_cases xO:n.data.toList=z.data.toList
      ·have h3:(n.toList == z.toList)=true:=by rw[dQ,dQ,xO];simp
       have IE:Hid ((n.data.toList == g.zone)=true):=jq (by rw[<-BR.out];simpa using xO);clear xO;have HE:Hid (RES=([],([],0),31)):=jq (by rw[gL.out,Np.Vn pre k' sU.out yV.out Ii.out (by rw[HU.out,IE.out];rfl)]);clear gL;go_wp2_with fail;refine bodyPost_ret (v:=.tuple #[.slice none 0 0,.agg #[.string ⟨#[]⟩,.int .i64 0],.int .i64 31]) (by simp[results,results53,go_sem,q05,q15]) rfl ?_;exact⟨_,⟨#[]⟩,by rw[HE.out],by rw[HE.out],by decide,by rw[HE.out];exact jO _ _,(wI.out.blSe (p:=⟨w.heap.size+1,0,none⟩) _).blSe (p:=⟨w.heap.size+1,1,none⟩) _⟩
      ·have h3:(n.toList == z.toList)=false:=by rw[dQ,dQ];simpa using xO
       have IE:Hid ((n.data.toList == g.zone)=false):=jq (by rw[<-BR.out];simpa using xO);obtain⟨Ln,il⟩:=Np.bGJ (n:=n.data.toList) (z:=z.data.toList) (by rw[BR.out];exact HU.out) xO;have a1K:=nS Ln;have aaJ:=jq Ln;have Ew:Hid (RES=Np.mq (pre ++ [n.data.toList]) (Np.da known k' z.data.toList)):=jq (by rw[gL.out,Np.bMQ pre k' sU.out yV.out Ii.out (by rw[HU.out,IE.out];rfl),BR.out]);clear xO Ln gL q05 q15 fq5;have Rp:=ur.out.keep jp V9.out (by have:=HB.out.size;have:=uC.out;omega);obtain⟨Q,hQ⟩:=aaK w5.heap.size;obtain⟨wh,po⟩:=aaK (w5.alloc (.cells #[.string z] 9));have gE:Below w5.heap.size w5 wh:=by rw[<-po];exact aG _ _
       have aYX:w.heap.size+1+1<=w5.heap.size:=by omega
       obtain⟨v',wj,jz,rX,aU⟩:=bkK (Rp.keep jp gE aYX) 102 Q z gd (de (r:=[.string z]) hQ po) (by rw[Ey.out];omega) (by have:=gE.size;omega);obtain⟨A2,n2,c4,rfl,mb⟩:=rX.letF;have tI:n2=m+1:=by rw[<-mb,List.length_append,Ey.out];rfl
       subst tI;have nh:=jq jz;have IH:=jq rX;have XO:=jq mb;have eL:=jq (bx.out.trans ((gE.mono bx.out.size).trans (aU.mono (by have:=uC.out;omega))));clear Rp jz rX aU gE mb;go_wp2_with (at_builtin;refine Vv rfl _ _ 102 rfl _ _ _ wj rfl rfl nh.out ?_;clear po);go_roundw
       case rel=>exact⟨k',m+1,z,A2,c4,pre ++ [n.data.toList],rfl,rfl,a1K,by omega,by omega,aaJ,Ew,XO,IH,eL⟩
       case measure=>exact il
theorem bkJ{B:Nat}{w:World}{v:Value}{xs:List Np.Key}(h:bS kK 2 53 B B w v xs)(ty:TypeId)(q:Nat)(k:Np.Key)(hc:∀ j u,[Value.int .i64 k.n,.int .i64 k.alg][j]?=some u->w.cell? ⟨q,j,none⟩=some u)(hn:xs.length<=1000000)(hb:B<=w.heap.size) :
 ∃ v' w',(Builtin.append_ #[46,46] ty #[v,.slice (some ⟨q,0,none⟩) 1 1]).run prog w = .ok v' w'/\bS kK 2 53 B B w' v' (xs ++ [k])/\Below B w w':=by
 obtain⟨i0,hi,eu,bG,bL⟩:=info_parts Tryz.infoKeyV;exact h.push (P:=prog) 46 ty i0 _ 16 underlying46 hi eu bG bL rfl (by decide) (by decide) q _ k rfl (λu hu=>by simp at hu;rcases hu with rfl | rfl<;>rfl) hc rfl hn re (bQ _) hb
theorem a8J{w:World}{B:Nat}{A:Option Addr}{n c:Nat}{xs:List Np.Key}(h:SlR kK 2 w B (.slice A n c) xs){k:Nat}{x:Np.Key}(hx:xs[k]?=some x):∃ (b o:Nat),A=some ⟨b,o,none⟩/\b<B/\w.cell? ⟨b,o+k * 2,none⟩=some (.int .i64 x.n)/\w.cell? ⟨b,o+k * 2+1,none⟩=some (.int .i64 x.alg):=by
 obtain⟨A',c',hv,hc,_,he⟩:=h;simp only[Value.slice.injEq] at hv;obtain⟨rfl,_,_⟩:=hv;obtain⟨b,o,e,rfl,hb,_,hce,rfl⟩:=he k x hx;exact⟨b,o,rfl,hb,hce 0 _ rfl,hce 1 _ rfl⟩
theorem auX:∀ args w,(callFunc 190 args).run prog w = .ok (.enter 190 args) w:=enters_of func190 (by kernel_rfl) rfl
theorem bdX(bk:Nat)(k x:Np.Key)(w:World)(c0:w.cell? ⟨bk,0,none⟩=some (.int .i64 k.n))(c1:w.cell? ⟨bk,1,none⟩=some (.int .i64 k.alg)) :
 Calls prog 190 #[.agg #[.int .i64 x.n,.int .i64 x.alg],.pointer (some ⟨bk,0,none⟩)] w (aCX w.heap.size w (.bool (decide (x=k)))):=by
 have lk:=World.block_lt_of_cell? w _ c0;simp only at lk;have HB:=jq (aG w);have hd:decide (x=k)=((x.n == k.n)&&(x.alg == k.alg)):=by
  cases x;cases k;simp only[Np.Key.mk.injEq]
  rw[Bool.eq_iff_iff];simp
 rw[hd];clear hd;go_enter func190,ntmps190;go_wp2_with fail
 all_goals
  go_ret;refine⟨aj ?_,HB.out _⟩;clear HB c0 c1;go_light;simp_all
theorem bdY(an:Np.DSet)(e1:List Value)(ks:Np.Signed)(e2:List Value)(t d:Int)(w:World)(hR:cr w w.heap.size)(h1:iw w w.heap.size e1 an)(h2:az w w.heap.size e2 ks) :
 Calls prog 125 #[.agg e1.toArray,.agg e2.toArray,.int .i64 t,.int .i64 d] w (aCX w.heap.size w (.bool (Np.vF an ks t d))):=by
 have H1:=jq h1;have H2:=jq h2;have HR:=jq hR;obtain⟨s,v,hs,aB,hd,rfl⟩:=h1;have HS:=jq hs;have HD:=jq hd;obtain⟨A,N,C,rfl,_,_,_⟩:=cE hd;obtain⟨s2,dA,dn,dc,gA,gn,gc,rfl,ga,oE,jC,_,iN,fo⟩:=kr h2;have eC:=jq ga;have jS:=jq iN;have lD:=jq fo;obtain⟨RES,gp⟩:=aaK (Np.vF an ks t d);rw[gp];have cR:Hid (RES=((Np.bi an&&decide (an.type=6))&&((Np.bi ks.set&&(decide (ks.set.type=7)&&ks.set.name == an.name)) &&
  Np.gw ks an.name ((Np.kp ks.set).filter λk=>(Np.kp an).any λx=>decide (x=k)) t d))):=jq (by rw[<-gp];rfl)
 obtain⟨w1,ah⟩:=aaK (w.alloc (.cells #[.string s,.int .i64 an.type,.int .i64 an.life,.slice A N C] 25));have z1:w1.heap.size=w.heap.size+1:=by rw[<-ah];simp
 obtain⟨w0,fw⟩:=aaK (w1.alloc (.cells #[.string s2,.int .i64 ks.set.type,.int .i64 ks.set.life,.slice dA dn dc,.slice gA gn gc] 44));have oj:Below w.heap.size w w0:=by rw[<-fw,<-ah];exact (blAl).alloc (by simp) _
 have av:Below w1.heap.size w1 w0:=by rw[<-fw];exact aG _ _
 have l0:w.heap.size+1<w0.heap.size:=by rw[<-fw];simp;omega
 have vy:=de (r:=[.string s,.int .i64 an.type,.int .i64 an.life,.slice A N C]) rfl ah;have pu:=de (r:=[.string s2,.int .i64 ks.set.type,.int .i64 ks.set.life,.slice dA dn dc,.slice gA gn gc]) z1 fw;have fk:Hid (∀ wz,Below w0.heap.size w0 wz->∀ (j:Nat) u,[Value.string s,.int .i64 an.type,.int .i64 an.life,.slice A N C][j]?=some u->wz.cell? ⟨w.heap.size,j,none⟩=some u):=jq (λwz hb j u hj=>aaQ hb ((cl av (by omega)).trans (vy j u hj)));have jV:Hid (∀ wz,Below w0.heap.size w0 wz->∀ (j:Nat) u,[Value.string s2,.int .i64 ks.set.type,.int .i64 ks.set.life,.slice dA dn dc,.slice gA gn gc][j]?=some u->wz.cell? ⟨w.heap.size+1,j,none⟩=some u):=jq (λwz hb j u hj=>(hb.cell (p:=⟨w.heap.size+1,j,none⟩) l0).trans (pu j u hj));have aD:=jq oj;have gZ:Hid (iw w0 w0.heap.size [.string s,.int .i64 an.type,.int .i64 an.life,.slice A N C] an):=jq (H1.out.later oj);have Bq:Hid (iw w0 w0.heap.size [.string s2,.int .i64 ks.set.type,.int .i64 ks.set.life,.slice dA dn dc] ks.set):=jq (iw.later ⟨s2,_,ga,oE,iN,rfl⟩ oj);have a0:=fk.out w0 (vQ _ _) 0 _ rfl;have a1:=fk.out w0 (vQ _ _) 1 _ rfl;have a2:=fk.out w0 (vQ _ _) 2 _ rfl;have a3:=fk.out w0 (vQ _ _) 3 _ rfl;clear hs hd ga iN fo h2 hR gp oj av vy pu;go_enter func125,ntmps125;go_wp2_with fail;clear fw ah z1;go_wp2_with fail;refine (sH s aB an.type an.life _ an.data w0 ((HR.out.keep aD.out).more aD.out.size) (HD.out.later bM bY aD.out)).mono ?_;rintro e w2 ⟨rfl,hb⟩;have am:=jq hb;have dx:=jq (aD.out.trans (am.out.mono aD.out.size));rw[show (⟨s.data.toList,an.type,an.life,an.data⟩:Np.DSet)=an by rw[HS.out]];obtain⟨r,hr⟩:=aaK (Np.bi an);rw[hr] at cR |-;have mC:=jq hr;clear hr hb a0 a2 a3
 cases r with
 | false=>
  have HE:Hid (RES=false):=cR;go_wp2_with fail;go_ret;exact⟨aj HE.out.symm,dx.out⟩
 | true=>
  have b1:=fk.out w2 am.out 1 _ rfl;by_cases bm:an.type=6
  case' neg=>
   have vu:(an.type == 6)=false:=by simpa using bm
   have vv:(an.type != 6)=true:=by simpa using bm
   have HE:Hid (RES=false):=jq (by rw[cR.out,tQ bm];rfl);clear bm;go_wp2_with fail;go_ret;exact⟨aj HE.out.symm,dx.out⟩
  have vu:(an.type == 6)=true:=by simpa using bm
  have vv:(an.type != 6)=false:=by simpa using bm
  replace cR:Hid (RES=((Np.bi ks.set&&(decide (ks.set.type=7)&&ks.set.name == an.name)) &&
   Np.gw ks an.name ((Np.kp ks.set).filter λk=>(Np.kp an).any λx=>decide (x=k)) t d)):=jq (by rw[cR.out,uQ bm];rfl)
  have k0:=jV.out w2 am.out 0 _ rfl;have k1:=jV.out w2 am.out 1 _ rfl;have k2:=jV.out w2 am.out 2 _ rfl;have k3:=jV.out w2 am.out 3 _ rfl;clear bm;go_wp2_with fail;refine (sH s2 oE ks.set.type ks.set.life _ ks.set.data w2 ((HR.out.keep dx.out).more dx.out.size) (jS.out.later bM bY dx.out)).mono ?_;rintro e w3 ⟨rfl,hb⟩;have aw:=jq (am.out.trans (hb.mono am.out.size));have iJ:=jq (aD.out.trans (aw.out.mono aD.out.size));rw[show (⟨s2.data.toList,ks.set.type,ks.set.life,ks.set.data⟩:Np.DSet)=ks.set by rw[eC.out]];obtain⟨r,hr⟩:=aaK (Np.bi ks.set);rw[hr] at cR |-;have Z8:=jq hr;clear hr hb b1 k0 k1 k2 k3 vu vv
  cases r with
  | false=>
   have HE:Hid (RES=false):=cR;go_wp2_with fail;go_ret;exact⟨aj HE.out.symm,iJ.out⟩
  | true=>
   have k1:=jV.out w3 aw.out 1 _ rfl;by_cases bm:ks.set.type=7
   case' neg=>
    have vu:(ks.set.type == 7)=false:=by simpa using bm
    have vv:(ks.set.type != 7)=true:=by simpa using bm
    have HE:Hid (RES=false):=jq (by rw[cR.out,tQ bm];rfl);clear bm;go_wp2_with fail;go_ret;exact⟨aj HE.out.symm,iJ.out⟩
   have vu:(ks.set.type == 7)=true:=by simpa using bm
   have vv:(ks.set.type != 7)=false:=by simpa using bm
   replace cR:Hid (RES=((ks.set.name == an.name)&&Np.gw ks an.name ((Np.kp ks.set).filter λk=>(Np.kp an).any λx=>decide (x=k)) t d)):=jq (by rw[cR.out,uQ bm];rfl);have k0:=jV.out w3 aw.out 0 _ rfl;have a0:=fk.out w3 aw.out 0 _ rfl;have a1:=fk.out w3 aw.out 1 _ rfl;have a2:=fk.out w3 aw.out 2 _ rfl;have a3:=fk.out w3 aw.out 3 _ rfl;clear bm;by_cases fJ:s2.data.toList=s.data.toList
   case' neg=>
    have mb:(s2.toList == s.toList)=false:=by rw[dQ,dQ];simpa using fJ
    have HE:Hid (RES=false):=jq (by rw[cR.out,<-eC.out,<-HS.out,show (s2.data.toList == s.data.toList)=false by simpa using fJ];rfl);clear fJ;go_wp2_with fail;go_ret;exact⟨aj HE.out.symm,iJ.out⟩
   have mb:(s2.toList == s.toList)=true:=by rw[dQ,dQ,fJ];simp
   replace cR:Hid (RES=Np.gw ks an.name ((Np.kp ks.set).filter λk=>(Np.kp an).any λx=>decide (x=k)) t d):=jq (by rw[cR.out,<-eC.out,<-HS.out,fJ];simp);clear fJ;go_wp2_with fail;obtain⟨KA,J6⟩:=aaK (Np.kp an);obtain⟨KK,Ft⟩:=aaK (Np.kp ks.set);have aQQ:an.data.length<=8:=(Np.yu mC.out).2.2.2.2.2.2.1;have Sd:ks.set.data.length<=8:=(Np.yu Z8.out).2.2.2.2.2.2.1;have Rm:KK.length<=8:=by rw[<-Ft];unfold Np.kp;rw[List.length_map];exact Sd
   rw[J6,Ft] at cR;have XF:=jq J6;have XI:=jq Ft;have Iv:=jq Rm;refine (TH an (by omega) _ w3 (gZ.out.later aw.out)).mono ?_;rintro e w4 ⟨v4,rfl,qN,aE⟩;rw[XF.out] at qN;have n9:=jq qN;have aX:=jq (aw.out.trans (aE.mono aw.out.size));obtain⟨A4,N4,C4,rfl,_,_,_⟩:=cE qN;have k0':=jV.out w4 aX.out 0 _ rfl;have k1':=jV.out w4 aX.out 1 _ rfl;have k2':=jV.out w4 aX.out 2 _ rfl;have k3':=jV.out w4 aX.out 3 _ rfl;clear qN aE J6 Ft Rm k0 k1 a0 a1 a2 a3 vu vv mb;go_wp2_with fail;refine (TH ks.set (by omega) _ w4 (Bq.out.later aX.out)).mono ?_;rintro e w5 ⟨v5,rfl,zS,aO⟩;rw[XI.out] at zS;have BH:=jq zS;have bx:=jq (aX.out.trans (aO.mono aX.out.size));have YZ:=jq (n9.out.later re At aO);obtain⟨A5,N5,C5,rfl,Fu,_,_⟩:=cE zS;have NP:=jq Fu;have bWZ:N5<=8:=by have:=Iv.out;omega
   clear zS aO k0' k1' k2' k3' Fu n9 aQQ Sd;go_wp2_with fail;go_loopw [10,47] (λkv i wr=>∃ (k n:Nat) (A':Option Addr) (c':Nat),k<=N5/\i = .int .i64 k/\kv = .slice A' n c'/\n<=k/\Hid (((KK.take k).filter λk=>KA.any λx=>decide (x=k)).length=n)/\Hid (bS kK 2 53 w5.heap.size w5.heap.size wr (.slice A' n c') ((KK.take k).filter λk=>KA.any λx=>decide (x=k)))/\Hid (Below w5.heap.size w5 wr)) (λ_ i _=>N5 - (intOf i).toNat)
   case atStart=>exact⟨0,0,none,0,jQ _,rfl,rfl,bQ _,jq (by simp),jq (bS.nil w5),jq (vQ _ _)⟩
   case round=>
    obtain⟨k,n,A',c',hk,rfl,rfl,hnk,gy,HO,HB⟩:=hrel;obtain⟨ws,rfl⟩:=aaX wr;by_cases ag:k<N5
    ·have CX:k<KK.length:=by rw[NP.out];exact ag
     obtain⟨x,hx⟩:=aaK (KK[k]);obtain⟨b,o,rfl,hb,c0,c1⟩:=a8J (BH.out.keep re HB.out) (k:=k) (aQ CX);rw[hx] at c0 c1;have HX:=jq hx;have df:(0:Int)<=(k:Int):=by omega
     have dg:(k:Int)<(N5:Int):=by omega
     obtain⟨wy,xX⟩:=aaK (ws.alloc (.cells #[.int .i64 x.n,.int .i64 x.alg] 53));have Ae:=de (r:=[.int .i64 x.n,.int .i64 x.alg]) rfl xX;have EW:=jq Ae;have gt:Below ws.heap.size ws wy:=by rw[<-xX];exact aG _ _
     have Dx:ws.heap.size<wy.heap.size:=by rw[<-xX];simp
     have AU:=jq gt;clear hx Ae gt;go_wp2_with fail;clear xX c0 c1;go_wp2_with fail;refine (QG 190 auX #[.pointer (some ⟨ws.heap.size,0,none⟩)] (λy=>decide (y=x)) _ KA wy wy.heap.size (bQ _) (YZ.out.later re At (HB.out.trans (AU.out.mono HB.out.size))) ?_).mono ?_
     ·intro W y e hy hW pf Cv;obtain rfl:=Cv;exact bdX ws.heap.size x y W ((hW.cell (p:=⟨ws.heap.size,0,none⟩) Dx).trans (EW.out 0 _ rfl)) ((hW.cell (p:=⟨ws.heap.size,1,none⟩) Dx).trans (EW.out 1 _ rfl))
     ·rintro e w6 ⟨qa,qb,rfl,bE,_,_⟩;have bH:=jq (AU.out.trans (bE.mono AU.out.size));obtain⟨r,hr⟩:=aaK (KA.any λy=>decide (y=x));rw[hr];have zb:Hid ((λk=>KA.any λy=>decide (y=k)) KK[k]=r):=jq (by rw[HX.out];exact hr);have j0:w6.cell? ⟨ws.heap.size,0,none⟩=some (.int .i64 x.n):=(bE.cell (p:=⟨ws.heap.size,0,none⟩) Dx).trans (EW.out 0 _ rfl);have j1:w6.cell? ⟨ws.heap.size,1,none⟩=some (.int .i64 x.alg):=(bE.cell (p:=⟨ws.heap.size,1,none⟩) Dx).trans (EW.out 1 _ rfl);have l6:ws.heap.size<w6.heap.size:=by have:=bE.size;omega
      clear hr bE;obtain⟨w7,ko⟩:=aaK (w6.alloc (.cells #[.int .i64 qa,.int .i64 qb] 53));have bF:Below w6.heap.size w6 w7:=by rw[<-ko];exact aG _ _
      have qV:w6.heap.size<w7.heap.size:=by rw[<-ko];simp
      have cw:=jq (bH.out.trans (bF.mono bH.out.size));have bN:=jq (HB.out.trans (cw.out.mono HB.out.size));have Fw:=HO.out.keep re cw.out HB.out.size;have yU:=jq Fw;have i0:w7.cell? ⟨ws.heap.size,0,none⟩=some (.int .i64 x.n):=(bF.cell (p:=⟨ws.heap.size,0,none⟩) l6).trans j0;have i1:w7.cell? ⟨ws.heap.size,1,none⟩=some (.int .i64 x.alg):=(bF.cell (p:=⟨ws.heap.size,1,none⟩) l6).trans j1
      cases r with
      | false=>
       clear Fw bF;go_wp2_with fail;clear ko;go_wp2_with fail;go_roundw
       case rel=>exact⟨k+1,n,A',c',by omega,by go_num,rfl,by omega,jq (by rw[Ca CX,zb.out];simpa using gy.out),jq (by rw[Ca CX,zb.out];simpa using yU.out),bN⟩
       ·simp[intOf]<;>omega
      | true=>
       obtain⟨Q,hQ⟩:=aaK w7.heap.size;obtain⟨wh,po⟩:=aaK (w7.alloc (.cells #[.int .i64 x.n,.int .i64 x.alg] 53));have gE:Below w7.heap.size w7 wh:=by rw[<-po];exact aG _ _
       obtain⟨v',wj,jz,rX,aU⟩:=bkJ (Fw.keep re gE bN.out.size) 46 Q x (de (r:=[.int .i64 x.n,.int .i64 x.alg]) hQ po) (by rw[gy.out];omega) (by have:=bN.out.size;have:=gE.size;omega);obtain⟨A2,n2,c4,rfl,mb⟩:=rX.letF;have NO:Hid (n2=n+1):=jq (by rw[<-mb,List.length_append,gy.out];rfl);have nh:=jq jz;have IH:=jq rX;have eL:=jq (bN.out.trans ((gE.mono bN.out.size).trans aU));have cbQ:ws.heap.size≠Q:=by omega
       have HQ:=jq hQ;clear Fw bF jz rX aU gE mb ag;go_wp2_with (at_builtin;refine Vv rfl _ _ 46 rfl _ _ _ wj rfl rfl nh.out ?_;clear po ko i0 i1 j0 j1);go_roundw
       case rel=>exact⟨k+1,n2,A2,c4,by omega,by go_num,rfl,by have:=NO.out;omega,jq (by rw[Ca CX,zb.out,List.length_append,gy.out];simpa using NO.out.symm),jq (by rw[Ca CX,zb.out];simpa [HX.out] using IH.out),eL⟩
       ·simp[intOf]<;>omega
    ·obtain rfl:k=N5:=by omega
     have eJ:=jq (bx.out.trans (HB.out.mono bx.out.size));have rB:=jq (aD.out.trans (eJ.out.mono aD.out.size));have er:=HO.out.slr At HB.out.size (by rw[gy.out];omega);rw[kQ (by rw[NP.out];omega)] at er;have gN:=jq er;have k0:=jV.out ws eJ.out 0 _ rfl;have k1:=jV.out ws eJ.out 1 _ rfl;have k2:=jV.out ws eJ.out 2 _ rfl;have k3:=jV.out ws eJ.out 3 _ rfl;have k4:=jV.out ws eJ.out 4 _ rfl;have a0:=fk.out ws eJ.out 0 _ rfl;clear er ag;go_wp2_with fail;refine (Mb s t d _ (KK.filter λk=>KA.any λx=>decide (x=k)) s2 oE ks.set.type ks.set.life _ _ ks.set.data ks.sigs ws ((HR.out.keep rB.out).more rB.out.size) (jS.out.later bM bY rB.out) (lD.out.later dG el rB.out) gN.out).mono ?_;rintro e wz ⟨rfl,hb⟩;have EP:=jq (rB.out.trans (hb.mono rB.out.size));clear hb k0 k1 k2 k3 k4 a0;go_wp2_with fail;go_ret;exact⟨aj (by rw[cR.out,eC.out,HS.out]),EP.out⟩
end
section
open Go.RowKit
attribute [local go_sem] Oper.semAt_some
def yo(b:Bool):Int:=if b then 0 else 31
theorem U9(b:Bool)(w:World):Calls prog 122 #[.bool b] w (aCY w (.int .i64 (yo b))):=by
 cases b with
 | true=>
  go_enter func122,ntmps122;go_wp2_with fail;go_ret;exact⟨rfl,rfl⟩
 | false=>
  go_enter func122,ntmps122;go_wp2_with fail;go_ret;exact⟨rfl,rfl⟩
theorem atY:∀ args w,(callFunc 121 args).run prog w = .ok (.enter 121 args) w:=enters_of func121 (by kernel_rfl) rfl
theorem auQ:∀ args w,(callFunc 123 args).run prog w = .ok (.enter 123 args) w:=enters_of func123 (by kernel_rfl) rfl
theorem auZ:∀ args w,(callFunc 124 args).run prog w = .ok (.enter 124 args) w:=enters_of func124 (by kernel_rfl) rfl
theorem azJ(Wy I F An Kb b o n c i:Nat)(nm:ByteArray)(w:World)(hi:i<n)(hn:n<=1000)(h0:w.cell? ⟨Wy,0,none⟩=some (.slice (some ⟨b,o,none⟩) n c))(h1:w.cell? ⟨I,0,none⟩=some (.int .i64 i))(h2:w.cell? ⟨b,o+i,none⟩=some (.string nm))(hr:nm.data.toList = [46]) :
 Calls prog 121 #[.pointer (some ⟨Wy,0,none⟩),.pointer (some ⟨I,0,none⟩),.pointer (some ⟨F,0,none⟩),.pointer (some ⟨An,0,none⟩),.pointer (some ⟨Kb,0,none⟩)] w (aCY w (.int .i64 0)):=by
 have df:(0:Int)<=(i:Int):=by omega
 have dg:(i:Int)<(n:Int):=by omega
 have h3:(nm.toList == [46])=true:=by rw[dQ,hr];rfl
 clear hr;go_enter func121,ntmps121;go_wp2_with fail;go_ret;exact⟨rfl,rfl⟩
def DZ(F:Nat)(kv:Value)(an:ByteArray)(aty al:Int)(adv:Value)(t d:Int)(w:World):Prop:=∀ (j:Nat) u,[kv,Value.string an,.int .i64 aty,.int .i64 al,adv,.int .i64 t,.int .i64 d][j]?=some u->w.cell? ⟨F,j,none⟩=some u
theorem UN{w:World}{X:Nat}{u:List Value}{T:TypeId}(hu:u.length=5)(h:w.heap[X]?=some (.cells u.toArray T (0,0)))(a b c d e:Value):(((((w.setCell ⟨X,0,none⟩ a).setCell ⟨X,1,none⟩ b).setCell ⟨X,2,none⟩ c).setCell ⟨X,3,none⟩ d).setCell ⟨X,4,none⟩ e).heap[X]?=some (.cells [a,b,c,d,e].toArray T (0,0)):=by
 match u,hu with
 | [u0,u1,u2,u3,u4],_=>simp[World.setCell,Array.getElem?_modify,h]
theorem Cc{w w1:World}{X:Nat}(h:w.grownBy w1 (some X))(o:Nat)(v:Value):w.grownBy (w1.setCell ⟨X,o,none⟩ v) (some X):=
 ⟨h.os,h.tape,h.output,by have:=h.size;simpa [World.setCell] using this,λk hk hne=>by
  rw[<-h.block k hk hne];simp only[World.setCell,Array.getElem?_modify];rw[Qc (λe=>hne (by rw[e]))]⟩
theorem QU(w:World)(X:Nat):w.grownBy w (some X):=⟨rfl,rfl,rfl,bQ _,λ_ _ _=>rfl⟩
theorem Fn(w:World)(X:Nat)(a b c d e:Value):w.grownBy (((((w.setCell ⟨X,0,none⟩ a).setCell ⟨X,1,none⟩ b).setCell ⟨X,2,none⟩ c).setCell ⟨X,3,none⟩ d).setCell ⟨X,4,none⟩ e) (some X):=
 Cc (Cc (Cc (Cc (Cc (QU w X) 0 a) 1 b) 2 c) 3 d) 4 e
theorem QT{w w1 w2:World}{X:Nat}(h:Below w.heap.size w w1)(hX:X<w.heap.size)(hg:w1.grownBy w2 (some X)):w.grownBy w2 (some X):=
 ⟨hg.os.trans h.os,hg.tape.trans h.tape,hg.output.trans h.output,yQ h.size hg.size,λk hk hne=>(hg.block k (lqQ hk h.size) hne).trans (h.block k hk)⟩
theorem QV{w w1 w2:World}{X:Nat}(hg:w.grownBy w1 (some X))(h:Below w1.heap.size w1 w2):w.grownBy w2 (some X):=
 ⟨h.os.trans hg.os,h.tape.trans hg.tape,h.output.trans hg.output,yQ hg.size h.size,λk hk hne=>(h.block k (lqQ hk hg.size)).trans (hg.block k hk hne)⟩
theorem zo{w w1:World}{X B:Nat}(hg:w.grownBy w1 (some X))(hB:B<=X)(hw:B<=w.heap.size):Below B w w1:=(vQ _ _).grown hg hw (λk hk=>by cases hk;exact hB)
theorem bQX(w:World)(B:Nat):az w B [.string ⟨#[]⟩,.int .i64 0,.int .i64 0,.slice none 0 0,.slice none 0 0] Np.ky:=⟨⟨#[]⟩,_,_,rfl,by decide,jO _ _,jO _ _,rfl⟩
theorem D0.reads{B:Nat}{known:List Np.Signed}{n:List UInt8}{t:Int}{w:World}{e:Ending}{w':World}(h:D0 B known n t w e w'):∃ (s:ByteArray) (a b:Int) (dA:Option Addr) (dn dc:Nat) (gA:Option Addr) (gn gc:Nat),e = .returned (.tuple #[.agg #[.string s,.int .i64 a,.int .i64 b,.slice dA dn dc,.slice gA gn gc],.bool (Np.dF known n t).isSome])/\Below w.heap.size w w'/\
 az w' B [.string s,.int .i64 a,.int .i64 b,.slice dA dn dc,.slice gA gn gc] ((Np.dF known n t).getD Np.ky):=by
 obtain⟨s,a,b,dA,dn,dc,gA,gn,gc,he,hb,hf,hz⟩:=h;refine⟨s,a,b,dA,dn,dc,gA,gn,gc,he,hb,?_⟩
 cases hk:Np.dF known n t with
 | none=>
  obtain⟨rfl,rfl,rfl,rfl,rfl,rfl,rfl,rfl,rfl⟩:=hz hk;exact bQX _ _
 | some x=>exact hf x hk
def MK(B An:Nat)(x:Np.Signed)(w w':World):Prop:=∃ ea:List Value,az w' B ea x/\w'.heap[An]?=some (.cells ea.toArray 44 (0,0))/\w.grownBy w' (some An)
def ML(B An:Nat)(x:Np.Signed)(r:Bool)(w:World)(e:Ending)(w':World):Prop:=∃ ea:List Value,e = .returned (.int .i64 (yo r))/\az w' B ea x/\w'.heap[An]?=some (.cells ea.toArray 44 (0,0))/\w.grownBy w' (some An)
theorem azZ(Wy I F An Kb B b o n c i:Nat)(nm ab:ByteArray)(kv adv ksv:Value)(known:List Np.Signed)(an:ByteArray)(aty al t d:Int)(ks:List Np.Key)(ea:List Value)(w:World)(hi:i+1<n)(hn:n<=1000)
 (h0:w.cell? ⟨Wy,0,none⟩=some (.slice (some ⟨b,o,none⟩) n c)) (h1:w.cell? ⟨I,0,none⟩=some (.int .i64 i)) (h2:w.cell? ⟨b,o+i,none⟩=some (.string nm)) (h3:w.cell? ⟨b,o+(i+1),none⟩=some (.string ab)) (pm:nm.data.toList≠[46])
 (hF:DZ F kv an aty al adv t d w) (hK:w.cell? ⟨Kb,0,none⟩=some ksv) (CK:ea.length=5) (lU:w.heap[An]?=some (.cells ea.toArray 44 (0,0))) (hne:Wy≠An/\I≠An/\F≠An/\Kb≠An/\b≠An) (hB:B<=An) (hR:cr w B) (hk:SlR az 5 w B kv known) (ha:∃ A n c,adv = .slice A n c)
 (tF:∀ w',w.grownBy w' (some An)->SlR kK 2 w' w'.heap.size ksv ks) :
 Calls prog 121 #[.pointer (some ⟨Wy,0,none⟩),.pointer (some ⟨I,0,none⟩),.pointer (some ⟨F,0,none⟩),.pointer (some ⟨An,0,none⟩),.pointer (some ⟨Kb,0,none⟩)] w
  (ML B An ((Np.dF known nm.data.toList 6).getD Np.ky) (Np.gw ((Np.dF known nm.data.toList 6).getD Np.ky) ab.data.toList ks t d) w):=by
 obtain⟨u0,u1,u2,u3,u4,rfl⟩:∃ u0 u1 u2 u3 u4,ea = [u0,u1,u2,u3,u4]:=by match ea,CK with | [u0,u1,u2,u3,u4],_=>exact⟨u0,u1,u2,u3,u4,rfl⟩
 obtain⟨X,hX⟩:=aaK ((Np.dF known nm.data.toList 6).getD Np.ky);rw[hX];obtain⟨r,hr⟩:=aaK (Np.gw X ab.data.toList ks t d);rw[hr];have YB:=jq hr;have HX:=jq hX;have Bq:=jq hk;have eS:=jq hR;have Br:=jq tF;have gZ:=jq lU;have Xh:=jq hF;obtain⟨n1,n2,n3,n4,n5⟩:=hne;obtain⟨kA,kN,kC,rfl,_,_,_⟩:=cE hk;obtain⟨aA,aN,aC,rfl⟩:=ha;obtain⟨sA,sN,sC,rfl,_,_,_⟩:=cE (tF w ⟨rfl,rfl,rfl,bQ _,λ_ _ _=>rfl⟩);have lW:=World.block_lt_of_cell? w _ h0;have lI:=World.block_lt_of_cell? w _ h1;have lb:=World.block_lt_of_cell? w _ h2;have lF:=World.block_lt_of_cell? w _ (hF 0 _ rfl);have lK:=World.block_lt_of_cell? w _ hK;have lA:=(eQ.1 lU).1;simp only at lW lI lb lF lK;have f0:=hF 0 _ rfl;have f1:=hF 1 _ rfl;have f2:=hF 2 _ rfl;have f3:=hF 3 _ rfl;have f4:=hF 4 _ rfl;have f5:=hF 5 _ rfl;have f6:=hF 6 _ rfl;have df:(0:Int)<=(i:Int):=by omega
 have dg:(i:Int)<(n:Int):=by omega
 have jH:(nm.toList == [46])=false:=by rw[dQ];simpa using pm
 have eK:=jq (yQ hB (Nat.le_of_lt lA));clear hX hk hR tF lU hF hr pm;go_enter func121,ntmps121;go_upto_region 3 with fail
 go_cut [] (λwx=>MK B An X w wx)
 case first=>
  go_region_with (go_at_call 120;refine (Mk (.slice kA kN kC) (.slice aA aN aC) known an nm aty al t d 6 w.drew B eK.out (Bq.out.keep ax ((vQ _ w).drew)) ⟨_,_,_,rfl⟩).mono ?_;intro e w3 hp;obtain⟨s,a,bb,dA,dn,dc,gA,gn,gc,rfl,aq,cp⟩:=hp.reads;clear hp;have aw:Hid (Below w.heap.size w w3):=jq ((vQ w.heap.size w).drew.trans aq);have rx:=jq cp;have kP:=(aw.out.block An lA).trans gZ.out;have vP:=jq kP;have t0:=af [_,_,_,_,_] kP 0 _ rfl;have t1:=af [_,_,_,_,_] kP 1 _ rfl;have t2:=af [_,_,_,_,_] kP 2 _ rfl;have t3:=af [_,_,_,_,_] kP 3 _ rfl;have t4:=af [_,_,_,_,_] kP 4 _ rfl;have tf:∀ i,w3.frozen? ⟨An,i,none⟩=false:=(λi=>(by simp[World.frozen?,kP]));clear cp aq kP)
  all_goals
   go_wp2_with fail;go_meet
   case rel=>
    have hg:=QT aw.out lA (Fn w3 An (.string s) (.int .i64 a) (.int .i64 bb) (.slice dA dn dc) (.slice gA gn gc));exact⟨_,by rw[<-HX.out];exact ax _ _ _ _ _ rx.out (zo (Fn w3 An _ _ _ _ _) hB (by have:=aw.out.size;have:=eK.out;omega)),UN rfl vP.out _ _ _ _ _,hg⟩
 case rest=>
  obtain⟨e5,zM,rN,lZ⟩:=hcut;obtain⟨w5,rfl⟩:=aaX wc;obtain⟨s,dA,dn,dc,gA,gn,gc,rfl,hs,aB,_,_,hd,hg⟩:=kr zM;have HS:=jq hs;have qU:=lZ.size;have hc:∀ k o,k<w.heap.size->k≠An->w5.cell? ⟨k,o,none⟩=w.cell? ⟨k,o,none⟩:=λk o hk hne=>iQ (lZ.block k hk (λe=>hne (by cases e;rfl)));have b0:=(hc Wy 0 lW n1).trans h0;have b1:=(hc I 0 lI n2).trans h1;have b3:=(hc b (o+(i+1)) lb n5).trans h3;have bK:=(hc Kb 0 lK n4).trans hK;have g5:=(hc F 5 lF n3).trans f5;have g6:=(hc F 6 lF n3).trans f6;have y0:=af [_,_,_,_,_] rN 0 _ rfl;have y1:=af [_,_,_,_,_] rN 1 _ rfl;have y2:=af [_,_,_,_,_] rN 2 _ rfl;have y3:=af [_,_,_,_,_] rN 3 _ rfl;have y4:=af [_,_,_,_,_] rN 4 _ rfl;have qC:∀ (g:ci w5) (p:Addr),p.block<w5.heap.size->g.w.cell? p=w5.cell? p:=λg p h=>g.cell p h;have m1:Wy<w5.heap.size:=by omega
  have m2:I<w5.heap.size:=by omega
  have m3:F<w5.heap.size:=by omega
  have m4:Kb<w5.heap.size:=by omega
  have m5:b<w5.heap.size:=by omega
  have m6:An<w5.heap.size:=by omega
  have tX:IntKind.i64.wrap ((i:Int)+1)=(i:Int)+1:=IntWalk.i64_in _ (by omega);have i0:(0:Int)<=(i:Int)+1:=by omega
  have i1:(i:Int)+1<(n:Int):=by omega
  have i2:((i:Int)+1).toNat=i+1:=by omega
  have rK:Below B w w5:=zo lZ hB eK.out;have zw:=eS.out.keep rK;have Rb:∀ g:ci w5,Calls prog 96 #[.agg #[.string s,.int .i64 X.set.type,.int .i64 X.set.life,.slice dA dn dc,.slice gA gn gc],.string ab,.slice sA sN sC,.int .i64 t,.int .i64 d] g.w λe w'=>e = .returned (.bool r)/\Below g.w.heap.size g.w w':=λg=>by
   have hB5:B<=w5.heap.size:=by have:=eK.out;omega
   have fp:Below B w5 g.w:=g.below.mono hB5;have FX:=g.below.size;refine (Mb ab t d _ ks s aB X.set.type X.set.life _ _ X.set.data X.sigs g.w ((zw.keep fp).more (by omega)) ((hd.keep bM fp).more bY (by omega)) ((hg.keep dG fp).more el (by omega)) (Br.out g.w (QV lZ g.below))).mono ?_;rintro e w' ⟨rfl,hb⟩;rw[show (⟨⟨s.data.toList,X.set.type,X.set.life,X.set.data⟩,X.sigs⟩:Np.Signed)=X by rw[hs]];exact⟨by rw[YB.out],hb⟩
  have cN:=jq Rb;have En:=jq lZ;have He:=jq rN;have IQ:=jq zM;clear Rb lZ rN zM hd hg hs hc h0 h1 h2 h3 hK f0 f1 f2 f3 f4 f5 f6 zw rK;go_upto_region 4 with fail
  refine adK ?_
  repeat (go_big_quiet_step (fail))
  go_big_quiet_step ((go_at_call 96;exact Calls.grow_of (cN.out _)))
  repeat (go_big_quiet_step (fail))
  go_big_quiet_step ((go_at_call 122;exact Calls.grow_same (U9 r _)))
  repeat (go_big_quiet_step (fail))
  refine wpQuiet_nil ?_;rintro _ ⟨g,rfl⟩;have HE:Hid (Below w5.heap.size w5 g.w):=jq g.below;go_wp2_with fail;go_ret;exact⟨_,rfl,ax _ _ _ _ _ IQ.out (HE.out.mono (by have:=eK.out;omega)),(HE.out.block An m6).trans He.out,QV En.out HE.out⟩
end
namespace Np
def agQ(s:Signed):Prop:=∀ g∈s.sigs,0<=g.sum/\g.sum<18446744073709551616
def wR(h:Hist):Prop:=∀ c∈h.copies,∀ s∈c.zone.sets,agQ s
theorem AD{z:Zone}(v:VZone z):ai z.apex=true/\∀ x∈z.sets,bi x.set=true:=by
 have h:=v.right;unfold gh at h;simp only[Bool.and_eq_true] at h;exact⟨h.1.1,Fm h.2⟩
end Np
section
open Go.RowKit

end
end Go.Proofs.YtadhigmjilijcaaGreatDoor
