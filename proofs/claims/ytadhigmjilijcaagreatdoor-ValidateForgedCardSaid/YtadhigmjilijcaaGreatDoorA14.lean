/- No condition. -/
import Derived.Lib.LazyBuf
import Derived.Test.YtadhigmjilijcaaGreatDoorA10
import Derived.Test.YtadhigmjilijcaaGreatDoorA11
import Derived.Test.YtadhigmjilijcaaGreatDoorA12
set_option linter.all false
set_option maxRecDepth 100000
set_option maxHeartbeats 8000000
namespace Go.Proofs.YtadhigmjilijcaaGreatDoor
open Go.Proofs.Tryz
section
open Go.RowKit Go.Shelf
attribute [local go_sem] Oper.semAt_some
theorem ia.block{w w':World}{B:Nat}{xs:List (List UInt8)}(h:ia w B xs)(hb:w'.heap[B]?=w.heap[B]?):ia w' B xs:=λj x hx=>by
 obtain⟨s,h1,h2,h3,h4⟩:=h j x hx;refine⟨s,h1,h2,(iQ (a:=⟨B,j,none⟩) hb).trans h3,?_⟩;rw[<-h4];simp only[World.frozen?,hb]
def LO(w:World)(M b5 b6:Nat)(pre:List (List UInt8))(S:Nat->Prop)(W:World):Prop:=
 (∀ k,S k↔k=M\/k=b5\/k=b6)/\Boxed W b5 102 (.slice (some ⟨M,0,none⟩) 8 8)/\Boxed W b6 3 (.int .i64 ((8 - pre.length:Nat):Int))/\pre.length<=8/\Hid (ia W M (List.replicate (8 - pre.length) []++pre.reverse))/\M<W.heap.size/\Below w.heap.size w W
theorem PB(w:World)(M b5 b6:Nat)(B:Nat)(hB:w.heap.size<=B):fN B (LO w M b5 b6):=by
 rintro s S W W' ⟨hS,h1,h2,h3,h4,h6,h5⟩ aq;refine⟨hS,eS h1 aq ((hS _).2 (.inr (.inl rfl))),eS h2 aq ((hS _).2 (.inr (.inr rfl))),h3,jq (h4.out.block ?_),lqQ h6 aq.size,nt h5 aq hB (bQ _)⟩;exact aq.keep _ h6 (.inr ((hS _).2 (.inl rfl)))
theorem agX{p:Nat}{pre:List (List UInt8)}{x:List UInt8}(hp:pre.length=p)(h8:p<8):(List.replicate (8 - p) []++pre.reverse).set (8 - (p+1)) x=List.replicate (8 - (p+1)) []++(pre ++ [x]).reverse:=by
 have e:List.replicate (8 - p) ([]:List UInt8)=List.replicate (8 - (p+1)) [] ++ [[]]:=by
  rw[show 8 - p=(8 - (p+1))+1 by omega,List.replicate_succ']
 rw[e,List.append_assoc,List.set_append_right _ _ (by rw[List.length_replicate];exact bQ _),List.length_replicate,Nat.sub_self,List.reverse_append];rfl
theorem FI:∀ (xs:List (List UInt8)) (n:Nat) (b:Bool),Np.cV xs n b=true->n<=8->n+xs.length<=8
 | [],n,b,_,h=>by simpa using h
 | x::xs,n,b,h,hn=>by
   unfold Np.cV at h;split at h
   ·cases h
   ·rename_i hc;simp only[Bool.or_eq_true,Qa,not_or] at hc;rw[List.length_cons];split at h
    ·have:=FI xs (n+1) true h (by omega);omega
    ·split at h
     ·have:=FI xs (n+1) false h (by omega);omega
     ·cases h
theorem Cc{l:List UInt8}(h:Np.ao l=true):(Np.ar l).length<=8:=by
 unfold Np.ar;split
 ·simp
 ·rename_i hd;unfold Np.ao at h;rw[Qc hd] at h;split at h
  ·cases h
  ·have:=FI _ 0 false h (by omega)
   omega
theorem ahK(t:ByteArray)(hv:Np.ao t.data.toList=true)(w:World) :
 Calls prog 211 #[.string t] w λe w'=>(∃ v,e = .returned (.tuple #[v,.int .i64 0])/\SlR RTx 1 w' w'.heap.size v (Np.bY t.data.toList))/\Below w.heap.size w w':=by
 have ht:t.size<=60:=nL hv;have lJ:Hid ((Np.ar t.data.toList).length<=8):=jq (Cc hv);have HV:=jq hv;clear hv;have gH:∀ w:World,(Instr.makeSlice 102 (.int .i64 8) (.int .i64 8)).run prog w = .ok (.slice (some ⟨w.heap.size,0,none⟩) 8 8) (w.alloc (.cells (madeCells #[Value.string ⟨#[]⟩] 8) 9)):=λw=>alK 8 (by decide) w;have HZ:Hid (∀ j,j<8->(madeCells #[Value.string ⟨#[]⟩] 8)[j]?=some (.string ⟨#[]⟩)):=jq (λj hj=>alZ _ _ hj);generalize madeCells #[Value.string ⟨#[]⟩] 8=Z at gH HZ;refine (callsIn_wide (n:=0)).1 ?_;refine callsIn_of_wp_marks func211 rfl trivial ?_ rfl;simp only[ntmps211,List.size_toArray,List.length_cons,List.length_nil,Nat.reduceAdd,Nat.reduceSub,Array.replicate_succ,Array.replicate_zero,List.push_toArray,List.append_toArray,List.nil_append,List.cons_append];gi_wp2_with fail;refine⟨trivial,rfl,?_⟩;refine (callsIn_wide.2 (jH t (by omega) _)).mono ?_;rintro e w1 ⟨rfl,ay⟩;rw[HV.out];have aH:=jq ay;have bx:=ay.size;clear ay;gi_wp2_with fail;have b5:=Boxed.new (w1.alloc (.cells Z 9)) 102 (.slice (some ⟨w1.heap.size,0,none⟩) 8 8);have b6:=Boxed.new ((w1.alloc (.cells Z 9)).alloc (.cells #[.slice (some ⟨w1.heap.size,0,none⟩) 8 8] 102)) 3 (.int .i64 8);simp only[World.size_alloc] at b5 b6;have kM:ia (w1.alloc (.cells Z 9)) w1.heap.size (List.replicate 8 []):=λj x hx=>by
  rw[List.getElem?_replicate] at hx;split at hx
  ·rename_i hj
   cases hx
   exact⟨⟨#[]⟩,rfl,by decide,by simp[go_sem];exact HZ.out j hj,by simp[go_sem]⟩
  ·cases hx
 refine vx (n₀:=w.heap.size) (w0:=w) (first:=#[.string t]) (captured:=#[]) (gf:=187) rfl (enters_of func187 (by kernel_rfl) rfl) (mk:=λy=>#[.string t,y]) (λ_=>rfl)
  (ub t (by omega) _ w) (aH.out.trans ((((vQ _ w1).alloc (bQ _) _).alloc (by simp) _).alloc (by simp;omega) _ |>.mono bx)) (by simp;omega) (λ_=>rfl) (LO w w1.heap.size (w1.heap.size+1) (w1.heap.size+1+1)) (λ_ _ _ _=>False)
  (PB _ _ _ _ _ (by simp;omega)) (λc s S W W' h _=>h)
  (λk=>k=w1.heap.size\/k=w1.heap.size+1\/k=w1.heap.size+1+1) (by intro k h;omega) (by intro k h;simp;omega)
  ⟨λ_=>Iff.rfl,b5.alloc _,b6,by simp,jq ((kM.keep ((blAl).alloc (by simp) _) (by simp))),by simp;omega,aH.out.trans ((((vQ _ w1).alloc (bQ _) _).alloc (by simp) _).alloc (by simp;omega) _ |>.mono bx)⟩ ?round ?done ?stop
 case round=>
  rintro l0 pre x S W bw hI dz;gi_wp2;refine⟨S,RdStep.refl _ _,λk e=>.inl e,dz,?_⟩;intro l W₂ aq;obtain⟨hS,c5,c6,h8,hrow,F2,hB⟩:=PB w _ _ _ _ (by simp;omega) pre S W W₂ hI aq;have uN:pre.length+1<=8:=by
   have:=bw.length_le
   have h9:=lJ.out;simp at this;omega
  have hx:x∈Np.ar t.data.toList:=bw.subset (by simp);have m9:x.length<=60:=by have:=Np.sr hx;rw[be] at this;omega
  have ft:∀ k,S k->k<W₂.heap.size:=λk e=>lqQ (dz k e) aq.size;obtain⟨j,hj⟩:∃ j,8 - (pre.length+1)=j:=⟨_,rfl⟩;have hq:((8 - pre.length:Nat):Int)=((j+1:Nat):Int):=by omega
  rw[hq] at c6;have hj8:j<8:=by omega
  obtain⟨sz,_,_,Gv,wO⟩:=hrow.out j [] (by rw[List.getElem?_append_left (by rw[List.length_replicate];omega),List.getElem?_replicate,QbQ (by omega)]);have qD:Hid (∀ W',ia W' w1.heap.size (List.replicate (8 - pre.length) []++pre.reverse)->ia (W'.setCell ⟨w1.heap.size,j,none⟩ (bl x)) w1.heap.size (List.replicate (8 - (pre ++ [x]).length) []++(pre ++ [x]).reverse)):=jq (λW' hW=>by
   have h1:=hW.store (k:=j) (by rw[List.length_append,List.length_replicate,List.length_reverse];omega) ⟨x.toArray⟩ (by rw[<-be];simp;omega);have e:((⟨x.toArray⟩:ByteArray).data.toList)=x:=by simp
   rw[e,<-hj,agX rfl (by omega)] at h1;rw[List.length_append,List.length_singleton,<-hj];exact h1)
  have HOLD:=jq hrow.out;have Bf:=jq c5;have Bg:=jq c6;have c5c:=c5.cell;have c6c:=c6.cell;have c5f:=c5.frozen;have c6f:=c6.frozen;have ah:IntKind.i64.wrap (((j+1:Nat):Int) - 1)=(j:Int):=by rw[IntWalk.i64_in _ (by omega)];omega
  have wV:(0:Int)<=(j:Int):=by omega
  have zK:(j:Int)<8:=by omega
  have HJ:=jq hj;clear hx hq bw hI hrow c5 c6 hj;have hlen:8 - (pre ++ [x]).length=j:=by rw[List.length_append,List.length_singleton];exact HJ.out
  have SS:=jq hlen;clear hlen;gi_wp2;refine⟨S,((RdStep.refl S W₂).setCell (p:=⟨w1.heap.size+1+1,0,none⟩) (.inl ((hS _).2 (.inr (.inr rfl)))) _).setCell (p:=⟨w1.heap.size,j,none⟩) (.inl ((hS _).2 (.inl rfl))) _,λ_ e=>.inl e,λk e=>by have:=ft k e;simp[World.setCell];omega,hS,?_,?_,by rw[List.length_append,List.length_singleton];omega,jq (qD.out _ (HOLD.out.other (by simp<;>omega) _)),by simpa using F2,(hB.setCell (p:=⟨w1.heap.size+1+1,0,none⟩) (by simp;omega) _).setCell (p:=⟨w1.heap.size,j,none⟩) (by simpa using bx) _⟩
  ·exact bI (bI Bf.out (p:=⟨w1.heap.size+1+1,0,none⟩) (by simp) _) (p:=⟨w1.heap.size,j,none⟩) (by simp) _
  ·rw[SS.out];exact bI (Bg.out.set _) (p:=⟨w1.heap.size,j,none⟩) (by simp<;>omega) _
 case done=>
  rintro D S W hD df aP ⟨hS,c5,c6,h8,hrow,F2,hB⟩ hK;have c5c:=c5.cell;have c6c:=c6.cell;obtain⟨n,hn⟩:=aRZ ((Np.ar t.data.toList).length);rw[hn] at c6c h8;obtain⟨q,hq⟩:∃ q,8 - n=q:=⟨_,rfl⟩;rw[hq] at c6c;have nE:q<=8:=by omega
  have uO:(0:Int)<=(q:Int):=by omega
  have gV:(q:Int)<=8:=by omega
  have HN:=jq hn;have HQ:=jq hq;have S5:Hid (w1.heap.size≠D):=jq (λe=>df ((hS _).2 (.inl e.symm)));have qD:=jq hrow.out;have J9:Hid (Np.bY t.data.toList=(Np.ar t.data.toList).reverse):=jq (by rw[<-Np.rA,List.reverse_reverse]);have HXL:Hid (∀ x∈Np.ar t.data.toList,x.length<=140737488355328):=jq (λx hx=>by have:=Np.sr hx;rw[be] at this;omega);clear hrow;by_cases nD:n=0
  ·have Zy:q=8:=by omega
   have Ta:Hid (Np.bY t.data.toList = []):=jq (by rw[J9.out,rQ (HN.out.trans nD)];rfl);clear hn hq c5 c6 nD;subst Zy;gi_wp2;exact iw hK (v:=.tuple #[.slice (some ⟨w1.heap.size,0,none⟩) 0 0,.int .i64 0]) (by simp[results,results211,go_sem]) ⟨⟨_,rfl,by rw[Ta.out];exact⟨_,_,rfl,by simp,by simp,λi x hx=>by simp at hx⟩⟩,ib hB (by have:=aH.out.size;simp at hD;omega) _⟩
  ·have hq7:q<8:=by omega
   have a4K:(q:Int)<8:=by omega
   have GY:¬ q=8:=by omega
   have fo:Hid (8 - q=n):=jq (by omega);have nC:8 - q=n:=by omega
   clear hn hq c5 c6 nD;gi_wp2;refine iw hK (v:=.tuple #[.slice (some ⟨w1.heap.size,q,none⟩) n n,.int .i64 0]) (by simp[results,results211,go_sem]) ⟨⟨_,rfl,?_⟩,ib hB (by have:=aH.out.size;simp at hD;omega) _⟩;have hr:ia (W.putObj D (.deferred none)) w1.heap.size (List.replicate (8 - (Np.ar t.data.toList).length) []++(Np.ar t.data.toList).reverse):=qD.out.block (zQ S5.out);rw[J9.out];have OD:(Np.ar t.data.toList).reverse.length=n:=by rw[List.length_reverse];exact HN.out
   refine⟨_,n,by rw[OD],by omega,by omega,λi x hx=>?_⟩;have hin:=(cQ.1 hx).1;obtain⟨s,h1,h2,h3,_⟩:=hr (q+i) x (by rw[HN.out,HQ.out,oQ (by rw[List.length_replicate];omega),List.length_replicate,show q+i - q=i by omega];exact hx);refine⟨w1.heap.size,q,[.string s],rfl,by simpa using F2,rfl,λj v hv=>?_,s,h1,h2,rfl⟩
   match j,hv with
   | 0,hv=>cases hv;simpa using h3
 case stop=>
  rintro D c pre S W hD df aP gU h hK;exact h.elim
end
section
open Go.RowKit Go.Shelf
attribute [local go_sem] Oper.semAt_some
def Re(l:List UInt8)(w:World)(e:Ending)(w':World):Prop:=∃ c:ByteArray,e = .returned (.tuple #[.string c,.int .i64 0])/\c.data.toList=l/\Below w.heap.size w w'
def Ea(lm lr l8:Nat)(S:Nat->Prop):Prop:=∀ k,S k↔k=lm\/k=lr\/k=l8\/k=l8+1
def D9(w:World)(lm lr l8:Nat)(fv:Value)(m n:List UInt8)(pre:List (List UInt8))(S:Nat->Prop)(W:World):Prop:=
 Ea lm lr l8 S/\Boxed W l8 264 fv/\(∃ (q:Nat) (rem:List (List UInt8)),Boxed W (l8+1) 3 (.int .i64 q)/\q<=61 * pre.length/\ff W lm lr rem/\∀ rest,Np.ar m=pre++rest->Np.gP (Np.ar m) (Np.ar n) 0=Np.gP rest rem q)/\Below w.heap.size w W
def Eb(w:World)(lm lr l8:Nat)(m n:List UInt8)(c:Code)(_:List (List UInt8))(S:Nat->Prop)(W:World):Prop:=
 c = .exit 0/\Ea lm lr l8 S/\Boxed W (l8+1) 3 (.int .i64 (Np.gP (Np.ar m) (Np.ar n) 0:Nat))/\Below w.heap.size w W
theorem Ma(w:World)(lm lr l8:Nat)(fv:Value)(m n:List UInt8)(B:Nat)(hB:w.heap.size<=B):fN B (D9 w lm lr l8 fv m n):=by
 rintro s S W W' ⟨hS,h3,⟨q,rem,h1,h2,h4,h5⟩,h6⟩ aq;exact⟨hS,eS h3 aq ((hS _).2 (.inr (.inr (.inl rfl)))),⟨q,rem,eS h1 aq ((hS _).2 (.inr (.inr (.inr rfl)))),h2,h4.it aq ((hS _).2 (.inl rfl)) ((hS _).2 (.inr (.inl rfl))),h5⟩,nt h6 aq hB (bQ _)⟩
theorem Ws(w:World)(lm lr l8:Nat)(m n:List UInt8)(B:Nat)(hB:w.heap.size<=B)(c:Code):fN B (Eb w lm lr l8 m n c):=by
 rintro s S W W' ⟨hc,hS,h1,h6⟩ aq;exact⟨hc,hS,eS h1 aq ((hS _).2 (.inr (.inr (.inr rfl)))),nt h6 aq hB (bQ _)⟩
theorem Wt(a b:ByteArray)(k:Nat)(hk:Np.gP (Np.ar a.data.toList) (Np.ar b.data.toList) 0=k):(k=0->([46]:List UInt8)=Np.gR a.data.toList b.data.toList)/\(k≠0->(a.extract (a.size - k) a.size).data.toList=Np.gR a.data.toList b.data.toList):=by
 unfold Np.gR;rw[hk];exact⟨λh=>by rw[QbQ h],λh=>by rw[Qc h,uh,be]⟩
theorem Md{w:World}{lm lr l8:Nat}{fv:Value}{m n:List UInt8}{pre rest rem':List (List UInt8)}{x:List UInt8}{S:Nat->Prop}{W W4:World}{a:Act}{v:Int}{q:Nat}(hS:Ea lm lr l8 S)(hr:RdStep S W W4)(af:∀ k,S k->k<W.heap.size)
 (c8:Boxed W4 l8 264 fv) (c9:Boxed W4 (l8+1) 3 (.int .i64 v)) (hv:v=(((if 0<q then q+1 else 0)+x.length:Nat):Int)) (hq:q<=61 * pre.length) (hx:x.length<=60) (hp:ff W4 lm lr rem') (ey:pre ++ [x]++rest=Np.ar m)
 (hg:Np.gP (Np.ar m) (Np.ar n) 0=Np.gP rest rem' ((if 0<q then q+1 else 0)+x.length)) (hB:Below w.heap.size w W4) :
 ic (D9 w lm lr l8 fv m n) (Eb w lm lr l8 m n) (pre ++ [x]) S W .normal a W4:=by
 refine⟨S,hr,λ_ e=>.inl e,λk e=>by have:=af k e;have:=hr.size;omega,hS,c8,⟨_,rem',by rw[<-hv];exact c9,by rw[List.length_append,List.length_singleton];split<;>omega,hp,λr h=>?_⟩,hB⟩
 have:r=rest:=List.append_cancel_left (h.symm.trans ey.symm)
 rw[hg,this]
theorem Ce(a b:ByteArray)(ha:a.size<=140737488355328)(hb:b.size<=140737488355328)(va:Np.ao a.data.toList=true)(vb:Np.ao b.data.toList=true)(w:World) :
 Calls prog 261 #[.string a,.string b] w (Re (Np.gR a.data.toList b.data.toList) w):=by
 have mX:=Np.Mb (b:=b.data.toList) va;have cu:=Cc va;rw[be] at mX;obtain⟨CS,Ct⟩:=aRZ (Np.gP (Np.ar a.data.toList) (Np.ar b.data.toList) 0);have CE:=jq (Wt a b CS Ct);have ECS:=jq Ct;rw[Ct] at mX;have VA:=jq va;have VB:=jq vb;clear va vb Ct;refine (callsIn_wide (n:=0)).1 ?_;refine callsIn_of_wp_marks func261 rfl trivial ?_ rfl;simp only[ntmps261,List.size_toArray,List.length_cons,List.length_nil,Nat.reduceAdd,Nat.reduceSub,Array.replicate_succ,Array.replicate_zero,List.push_toArray,List.append_toArray,List.nil_append,List.cons_append];gi_wp2_with fail;refine⟨trivial,rfl,?_⟩;refine (callsIn_wide.2 (jH a ha _)).mono ?_;rintro e w1 ⟨rfl,ay⟩;rw[VA.out];have bJ:=ay;have bp:=ay.size;clear ay;gi_wp2_with fail;refine⟨trivial,rfl,?_⟩;refine (callsIn_wide.2 (jH b hb _)).mono ?_;rintro e w2 ⟨rfl,ag⟩;rw[VB.out];replace bJ:=bJ.trans (ag.mono bp);clear ag;gi_wp2_with fail;refine⟨trivial,rfl,?_⟩;refine (callsIn_wide.2 (DO b hb _)).mono ?_;rintro e w3 ⟨rfl,im,ai,bu⟩;have eo:=jq bu;have eN:=bJ.size;clear bu;replace bJ:=bJ.trans (ai.mono eN);clear ai;have b8:=Boxed.new w3 264 (.func (.func 304) #[] #[.pointer (some ⟨w2.heap.size+1,0,none⟩),.pointer (some ⟨w2.heap.size,0,none⟩)]);have b9:=Boxed.new (w3.alloc (.cells #[(.func (.func 304) #[] #[.pointer (some ⟨w2.heap.size+1,0,none⟩),.pointer (some ⟨w2.heap.size,0,none⟩)])] 264)) 3 (.int .i64 0);replace b8:=b8.alloc (.cells #[.int .i64 0] 3);rw[World.size_alloc] at b9;replace im:=(im.it (B:=w3.heap.size) (S:=λ_=>True) (qe (.cells #[(.func (.func 304) #[] #[.pointer (some ⟨w2.heap.size+1,0,none⟩),.pointer (some ⟨w2.heap.size,0,none⟩)])] 264)) trivial trivial).it (B:=w3.heap.size) (S:=λ_=>True) (qe (.cells #[.int .i64 0] 3)) trivial trivial;replace bJ:=(bJ.alloc bJ.size (.cells #[(.func (.func 304) #[] #[.pointer (some ⟨w2.heap.size+1,0,none⟩),.pointer (some ⟨w2.heap.size,0,none⟩)])] 264)).alloc (by have:=bJ.size;simp;omega) (.cells #[.int .i64 0] 3);have n8:=Boxed.new w3 264 .nilFunc;have n8c:=n8.cell;have n8f:=n8.frozen;gi_wp2_with fail;clear n8 n8c n8f;have Na:=enters_of func304 (by kernel_rfl) rfl;have bF:w3.heap.size=w2.heap.size+2:=eo.out;have g1:w2.heap.size+1<w3.heap.size:=by omega
 have g2:w.heap.size<w3.heap.size:=by omega
 refine vx (n₀:=w.heap.size) (w0:=w) (first:=#[.string a]) (captured:=#[]) (gf:=187) rfl (enters_of func187 (by kernel_rfl) rfl) (mk:=λy=>#[.string a,y]) (λ_=>rfl)
  (ub a ha _ w) bJ bJ.size (λ_=>rfl) (D9 w (w2.heap.size+1) w2.heap.size w3.heap.size (.func (.func 304) #[] #[.pointer (some ⟨w2.heap.size+1,0,none⟩),.pointer (some ⟨w2.heap.size,0,none⟩)]) a.data.toList b.data.toList)
  (Eb w (w2.heap.size+1) w2.heap.size w3.heap.size a.data.toList b.data.toList)
  (Ma _ _ _ _ _ _ _ _ bJ.size) (λc=>Ws _ _ _ _ _ _ _ bJ.size c)
  (λk=>k=w2.heap.size+1\/k=w2.heap.size\/k=w3.heap.size\/k=w3.heap.size+1) (by intro k h;omega) (by intro k h;simp;omega)
  ⟨λ_=>Iff.rfl,b8,⟨0,_,b9,by omega,im,λrest h=>by rw[h];rfl⟩,bJ⟩ ?round ?done ?stop
 case round=>
  rintro l0 pre x S W bw hI dz;clear bF;gi_wp2;refine⟨S,RdStep.refl _ _,λk e=>.inl e,dz,?_⟩;intro l W₂ aq;obtain⟨hS,c8,⟨q,rem,c9,hq,hp,jx⟩,hB⟩:=Ma w _ _ _ _ _ _ _ bJ.size pre S W W₂ hI aq;have c8c:=c8.cell;have ft:∀ k,S k->k<W₂.heap.size:=λk e=>lqQ (dz k e) aq.size;have hx:x∈Np.ar a.data.toList:=bw.subset (by simp);have m9:x.length<=60:=by have:=Np.km VA.out;have:=Np.sr hx;omega
  have uN:pre.length+1<=8:=by have:=bw.length_le;simp at this;omega
  obtain⟨rest,ey⟩:=bw;have fh:=jx (x::rest) (by rw[<-ey];simp);have HR:=jq ey;have HG:=jq fh;clear ey fh jx hx hI aq b8 b9 im;gi_wp2_with fail;refine⟨trivial,rfl,?_⟩;refine (CallsIn.inRound l (callsIn_wide.2 (DI (w2.heap.size+1) w2.heap.size (by omega) rem _ hp))).mono ?_;intro e W3 hP;rcases hP.rd with ⟨fX,rfl,rfl⟩ | ⟨y,rem',fX,rfl,hp',aZ,dP,dB⟩
  ·have iu:=jq fX;clear fX hP;gi_wp2_with fail;refine⟨S,RdStep.refl _ _,λ_ e=>.inl e,ft,rfl,hS,?_,hB⟩;rw[show Np.gP (Np.ar a.data.toList) (Np.ar b.data.toList) 0=q by rw[HG.out,iu.out];rfl];exact c9
  ·have iu:=jq fX;replace c8:=dP _ _ _ (by have:=eo.out;omega) (by have:=eo.out;omega) c8;replace c9:=dP _ _ _ (by have:=eo.out;omega) (by have:=eo.out;omega) c9;have nG:=aZ S ((hS _).2 (.inl rfl)) ((hS _).2 (.inr (.inl rfl)));have hB':=dB w.heap.size w (by omega) (by omega) hB;have c9c:=c9.cell;have c9f:=c9.frozen;have fh:Np.gP (Np.ar a.data.toList) (Np.ar b.data.toList) 0=if x=y then Np.gP rest rem' ((if 0<q then q+1 else 0)+x.length) else q:=by rw[HG.out,iu.out];rfl
   clear fX hP aZ dP dB c8c hp hB;by_cases dE:x=y
   ·subst dE;rw[QbQ rfl] at fh;have nk:=jq fh;clear fh HG;by_cases uO:0<q
    ·gi_wp2_with fail;exact Md (q:=q) hS ((nG.setCell (p:=⟨w3.heap.size+1,0,none⟩) (.inl ((hS _).2 (.inr (.inr (.inr rfl))))) _).setCell (p:=⟨w3.heap.size+1,0,none⟩) (.inl ((hS _).2 (.inr (.inr (.inr rfl))))) _) ft (bI (bI c8 (by simp) _) (by simp) _) ((c9.set _).set _)
      (by rw[QbQ uO];omega) hq m9 ((hp'.far (by simp;omega) (by simp;omega) _).far (by simp;omega) (by simp;omega) _) HR.out nk.out ((hB'.blSe (p:=⟨w3.heap.size+1,0,none⟩) _).blSe (p:=⟨w3.heap.size+1,0,none⟩) _)
    ·gi_wp2_with fail;exact Md (q:=q) hS (nG.setCell (p:=⟨w3.heap.size+1,0,none⟩) (.inl ((hS _).2 (.inr (.inr (.inr rfl))))) _) ft (bI c8 (by simp) _) (c9.set _)
      (by rw[Qc uO];omega) hq m9 (hp'.far (by simp;omega) (by simp;omega) _) HR.out nk.out (hB'.blSe (p:=⟨w3.heap.size+1,0,none⟩) _)
   ·rw[Qc dE] at fh;have a6J:(x == y)=false:=by simpa using dE
    have nk:=jq fh;clear fh HG dE;gi_wp2_with fail;refine⟨S,nG,λ_ e=>.inl e,λk e=>by have:=ft k e;have:=nG.size;omega,rfl,hS,?_,hB'⟩;rw[nk.out];exact c9
 case done=>
  rintro D S W hD df aP ⟨hS,c8,⟨q,rem,c9,hq,hp,jx⟩,hB⟩ hK;have jY:=jx [] (by simp);rw[show Np.gP [] rem q=q from by unfold Np.gP;rfl,ECS.out] at jY;subst jY;clear bF b8 b9 im;have c9c:=c9.cell;have oa:w.heap.size<=D:=by have:=bJ.size;omega
  have HD:=jq (And.intro hK (And.intro hB oa));have Yc:(w3.heap.size+1)≠D:=λe=>df ((hS _).2 (.inr (.inr (.inr e.symm))));by_cases h0:CS=0
  ·have h0':((CS:Int) == 0)=true:=by simpa using h0
   have HE:=jq (CE.out.1 h0);clear h0;gi_wp2;exact iw HD.out.1 (v:=.tuple #[.string ⟨#[46]⟩,.int .i64 0]) (by simp[results,results261,go_sem]) ⟨_,rfl,HE.out,ib HD.out.2.1 HD.out.2.2 _⟩
  ·have h0':((CS:Int) == 0)=false:=by simpa using h0
   have HE:=jq (CE.out.2 h0);obtain⟨d,hd⟩:=aRZ (a.size - CS);rw[hd] at HE;have fw:d<=a.size:=by omega
   have fS:(a.size:Int) - (CS:Int)=(d:Int):=by omega
   clear h0 hd;gi_wp2;exact iw HD.out.1 (v:=.tuple #[.string (a.extract d a.size),.int .i64 0]) (by simp[results,results261,go_sem]) ⟨_,rfl,HE.out,ib HD.out.2.1 HD.out.2.2 _⟩
 case stop=>
  rintro D c pre S W hD df aP gU ⟨rfl,hS,c9,hB⟩ hK;rw[ECS.out] at c9;clear bF b8 b9 im;have c9c:=c9.cell;have oa:w.heap.size<=D:=by have:=bJ.size;omega
  have HD:=jq (And.intro hK (And.intro hB oa));have Yc:(w3.heap.size+1)≠D:=λe=>df ((hS _).2 (.inr (.inr (.inr e.symm))));by_cases h0:CS=0
  ·have h0':((CS:Int) == 0)=true:=by simpa using h0
   have HE:=jq (CE.out.1 h0);clear h0;gi_wp2;exact iw HD.out.1 (v:=.tuple #[.string ⟨#[46]⟩,.int .i64 0]) (by simp[results,results261,go_sem]) ⟨_,rfl,HE.out,ib HD.out.2.1 HD.out.2.2 _⟩
  ·have h0':((CS:Int) == 0)=false:=by simpa using h0
   have HE:=jq (CE.out.2 h0);obtain⟨d,hd⟩:=aRZ (a.size - CS);rw[hd] at HE;have fw:d<=a.size:=by omega
   have fS:(a.size:Int) - (CS:Int)=(d:Int):=by omega
   clear h0 hd;gi_wp2;exact iw HD.out.1 (v:=.tuple #[.string (a.extract d a.size),.int .i64 0]) (by simp[results,results261,go_sem]) ⟨_,rfl,HE.out,ib HD.out.2.1 HD.out.2.2 _⟩
end
section
open Go.RowKit Go.Shelf
theorem Np.PG{xs:List (List UInt8)}{k:Nat}{x:List UInt8}(hx:xs[k]?=some x)(h:Np.bT x=false)(hk:0<k\/x≠[42]):Np.fZ xs=false:=by
 cases xs with
 | nil=>simp at hx
 | cons y r=>
  rw[Bool.eq_false_iff];intro h1;simp only[Np.fZ,Bool.and_eq_true,List.all_eq_true,Bool.or_eq_true,beq_iff_eq] at h1
  cases k with
  | zero=>
   simp at hx;subst hx;rcases h1.1 with h2 | h2
   ·rw[h] at h2;cases h2
   ·rcases hk with hk | hk
    ·omega
    ·exact hk h2
  | succ k=>
   have:=h1.2 x (gQ (by simpa using hx))
   rw[h] at this;cases this
theorem Np.afJ{xs:List (List UInt8)}(hne:xs≠[])(hx:∀ x∈xs,x≠[]/\46∉x):Np.ao (Np.bR xs)=(decide (xs.length<=8)&&(Np.fZ xs&&decide ((Np.bR xs).length<=60))):=by
 have hs:=Np.Qv xs hne λx h=>(hx x h).2;rw[Np.tp,Qc (λe=>by
  rw[e] at hs
  have:([]:List UInt8)∈xs:=by rw[<-hs];simp[Np.aR]
  exact (hx _ this).1 rfl),hs]
 split
 ·rw[show decide ((Np.bR xs).length<=60)=false from aSJ,Bool.and_false,Bool.and_false]
 ·rw[show decide ((Np.bR xs).length<=60)=true from aTZ,Bool.and_true,Bool.and_comm]
def oT(xs:List (List UInt8)):Value:=if Np.ao (Np.bR xs) then .tuple #[.string ⟨(Np.bR xs).toArray⟩,.int .i64 0] else .tuple #[.string ⟨#[]⟩,.int .i64 11]
theorem afQ(b o c:Nat)(ss:List ByteArray)(n:Nat)(hn:ss.length=n)(h0:0<n)(zW:n<=1000)(hs:∀ s∈ss,s.size<=1000)(hd:∀ s∈ss,s.data.toList≠[]/\46∉s.data.toList)(w:World)(hc:∀ (j:Nat) x,ss[j]?=some x->w.cell? ⟨b,o+j,none⟩=some (.string x))(hb:b<w.heap.size)(Gq:n<=c) :
 Calls prog 212 #[.slice (some ⟨b,o,none⟩) n c] w (aUQ w.heap.size w (oT (ss.map (·.data.toList)))):=by
 have GL:=Np.afJ (xs:=ss.map (·.data.toList)) (by intro k0;have:=Qd List.length k0;rw[List.length_map,hn] at this;simp at this;omega) (λx hx=>by obtain⟨s,h1,rfl⟩:=List.mem_map.1 hx;exact hd s h1);rw[List.length_map,hn] at GL;have Bw:=jq GL;clear GL hd;have HN:=jq hn;have HS:=jq hs;have HC:=jq hc;have HB:=jq hb;clear hn hs hc hb;have XY:(n:Int)≠0:=by omega
 go_enter func212,ntmps212;by_cases h8:8<n
 ·have h8i:(8:Int)<(n:Int):=by omega
  clear h8;go_wp2_with fail;go_ret2;exact⟨by rw[oT,Bw.out,show decide (n<=8)=false from tQ (by omega)];rfl,vQ _ _⟩
 ·have YV:decide ((8:Int)<(n:Int))=false:=aSJ;have Gx:((n:Int) == 0)=false:=by simpa using XY
  go_wp2_with fail;go_loopw [15] (λi wr=>∃ k:Nat,k<=n/\i = .int .i64 k/\wr=w/\Hid (Np.fZ ((ss.take k).map (·.data.toList))=true)) (λi _=>n - (intOf i).toNat)
  case atStart=>exact⟨0,by omega,rfl,rfl,jq rfl⟩
  case round=>
   obtain⟨k,hk,rfl,rfl,HL⟩:=hrel;by_cases af:k<n
   ·obtain⟨s,s9⟩:∃ s,ss[k]?=some s:=⟨_,aQ (by rw[HN.out];exact af)⟩;have c0:=HC.out k s s9;have bH:=HB.out;have uU:=HS.out s (gQ s9);have dS:=kNN k;have dp:(k:Int)<(n:Int):=by omega
    have hkc:k<c:=by omega
    have HT:Hid ((ss.take (k+1)).map (·.data.toList)=(ss.take k).map (·.data.toList) ++ [s.data.toList]):=jq (by
     obtain⟨hl,he⟩:=cQ.1 s9;rw[fQ hl,he,List.map_append];rfl)
    have yt:=jq s9;have yf:Hid (k=0->(ss.take k).map (·.data.toList) = []):=jq (by rintro rfl;rfl);clear s9;by_cases hl:Np.bT s.data.toList=true
    ·have rR:=jq hl;clear hl;go_wp2_with fail;refine (xy s (by omega) _).mono ?_;rintro e w1 ⟨rfl,rfl⟩;rw[rR.out];go_wp2_with fail;go_roundw
     case rel=>exact⟨k+1,by omega,by go_num,trivial,jq (by rw[HT.out];exact PF HL.out (.inl rR.out))⟩
     ·simp[intOf]<;>omega
    ·have rR:Hid (Np.bT s.data.toList=false):=jq (by simpa using hl);clear hl;by_cases On:k=0
     ·subst On;have c1:wr.cell? ⟨b,o,none⟩=some (.string s):=c0;by_cases aq:s=(⟨#[42]⟩:ByteArray)
      ·obtain rfl:(⟨#[42]⟩:ByteArray)=s:=aq.symm;go_wp2_with fail;refine (xy (⟨#[42]⟩:ByteArray) (by decide) _).mono ?_;rintro e w1 ⟨rfl,rfl⟩;rw[rR.out];go_wp2_with fail;go_roundw
       case rel=>exact⟨1,by omega,by go_num,trivial,jq (by rw[HT.out];exact PF HL.out (.inr ⟨rfl,rfl⟩))⟩
       ·simp[intOf]<;>omega
      ·have eN:(s.toList == [42])=false:=by
        simp only[beq_eq_false_iff_ne,ne_eq];intro h;rw[dQ] at h;exact aq (mF h)
       have EZ:Hid (s.data.toList≠[42]):=jq (λh=>aq (mF h));clear aq;go_wp2_with fail;refine (xy s (by omega) _).mono ?_;rintro e w1 ⟨rfl,rfl⟩;rw[rR.out];go_wp2_with fail;go_ret2;exact⟨by rw[oT,Bw.out,Np.PG (k:=0) (by rw[List.getElem?_map,yt.out];rfl) rR.out (.inr EZ.out),Bool.false_and,Bool.and_false];rfl,vQ _ _⟩
     ·have Zg:(0:Int)<(k:Int):=by omega
      clear On;go_wp2_with fail;refine (xy s (by omega) _).mono ?_;rintro e w1 ⟨rfl,rfl⟩;rw[rR.out];go_wp2_with fail;go_ret2;exact⟨by rw[oT,Bw.out,Np.PG (k:=k) (by rw[List.getElem?_map,yt.out];rfl) rR.out (.inl (by omega)),Bool.false_and,Bool.and_false];rfl,vQ _ _⟩
   ·obtain rfl:k=n:=by omega
    clear af;have hlen:(Np.bR (ss.map (·.data.toList))).length<=8 * 1001:=by
     refine yQ (aeY (M:=1000) _ (λx hx=>?_)) ?_
     ·obtain⟨s,h1,rfl⟩:=List.mem_map.1 hx
      have:=HS.out s h1
      rw[be];exact this
     ·rw[List.length_map,HN.out];exact Nat.mul_le_mul_right _ (by omega)
    have fo:=jq hlen;have cM:Hid (Np.fZ (ss.map (·.data.toList))=true):=jq (by have:=HL.out;rw[kQ (by rw[HN.out];omega)] at this;exact this);clear hlen;have hj:=Tryz.strings_Join b o c ss ⟨#[46]⟩ wr HC.out HB.out (by rw[HN.out];omega) (by rw[HN.out];exact Gq) (by
     show (Lib.join _ [46]).length<=_;rw[Pt]
     have:=fo.out
     omega)
    rw[HN.out] at hj;have HJ:=jq hj;clear hj;go_wp2_with fail;refine HJ.out.mono ?_;rintro e w1 ⟨rfl,hb⟩;have aH:=jq hb;clear hb;obtain⟨J,hJ⟩:∃ J:ByteArray,(⟨(Lib.join (ss.map (·.data.toList)) (⟨#[46]⟩:ByteArray).data.toList).toArray⟩:ByteArray)=J:=⟨_,rfl⟩;rw[hJ];have vJ:Hid (J.data.toList=Np.bR (ss.map (·.data.toList))):=jq (by
     rw[<-hJ];show Lib.join _ [46]=_;rw[Pt])
    clear hJ;have qU:J.size<=8008:=by rw[<-be,vJ.out];exact fo.out
    by_cases pI:J.size<=60
    ·have X3:(J.size:Int)<=60:=by omega
     have HV:Hid (Np.ao J.data.toList=true):=jq (by
      rw[vJ.out];exact Np.Pu (by intro k0;have:=Qd List.length k0;rw[List.length_map,HN.out] at this;simp at this;omega) (by rw[List.length_map,HN.out];omega) cM.out (by rw[<-vJ.out,be];exact pI))
     clear pI;go_wp2_with fail;go_ret2;exact⟨by rw[oT,QbQ (by rw[<-vJ.out];exact HV.out),<-vJ.out,Fm];rfl,aH.out⟩
    ·have X3:(60:Int)<(J.size:Int):=by omega
     clear pI;go_wp2_with fail;go_ret2;exact⟨by rw[oT,Bw.out,<-vJ.out,be,show decide (J.size<=60)=false from aSJ,Bool.and_false,Bool.and_false];rfl,aH.out⟩
theorem afZ(A:Option Addr)(n c:Nat)(xs:List (List UInt8))(hn:xs.length=n)(h0:0<n)(zW:n<=1000)(hs:∀ x∈xs,x.length<=1000)(hd:∀ x∈xs,x≠[]/\46∉x)(w:World)(h:SlR RTx 1 w w.heap.size (.slice A n c) xs) :
 Calls prog 212 #[.slice A n c] w (aUQ w.heap.size w (oT xs)):=by
 obtain⟨A',c',hA,hc,_,he⟩:=h;simp only[Value.slice.injEq] at hA;obtain⟨rfl,-,rfl⟩:=hA;obtain⟨x0,eO⟩:∃ x,xs[0]?=some x:=⟨_,aQ (by omega)⟩;obtain⟨b,o,_,rfl,hb,_,_,_⟩:=he 0 x0 eO;have zT:(xs.map λx=>(⟨x.toArray⟩:ByteArray)).map (·.data.toList)=xs:=by rw[List.map_map];exact List.map_id xs
 have:=afQ b o c (xs.map λx=>⟨x.toArray⟩) n (by rw[List.length_map,hn]) h0 zW (λs hm=>?_) (λs hm=>?_) w (λj s hj=>?_) hb (by omega)
 ·rw[zT] at this;exact this
 ·obtain⟨x,hx,rfl⟩:=List.mem_map.1 hm;exact hs x hx
 ·obtain⟨x,hx,rfl⟩:=List.mem_map.1 hm;exact hd x hx
 ·rw[List.getElem?_map] at hj
  cases Hn:xs[j]? with
  | none=>rw[Hn] at hj;cases hj
  | some x=>
   rw[Hn] at hj
   cases hj
   obtain⟨b',o',e,hA,_,_,hce,s,uV,_,rfl⟩:=he j x Hn
   cases hA
   have h1:=hce 0 _ rfl;rw[show o+j * 1+0=o+j by omega] at h1;rw[h1];congr 2;exact mF (by rw[uV])
theorem Tryz.infoStrV:(prog.info? 9).map (λi=>(i.zero,i.size,i.bytes))=some (some (.string ⟨#[]⟩),1,16):=by kernel_rfl
theorem PQ(w:World)(s:ByteArray)(hs:s.size<=140737488355328):aY RTx 1 9 w.heap.size w.heap.size (w.alloc (.cells #[.string s] 9)) (.slice (some ⟨w.heap.size,0,none⟩) 1 1) [s.data.toList]:=
 ⟨[[.string s]],rfl,World.ownsRow_lit w #[.string s] 1 (bQ _) (by simp[maxLen]) rfl,λi r x hr hx=>by
   cases i with
   | zero=>
    simp only[List.getElem?_cons_zero,Option.some.injEq] at hr hx;subst hr hx;exact⟨rfl,s,rfl,hs,rfl⟩
   | succ i=>simp at hr⟩
end
section
open Go.RowKit
theorem aqY{B:Nat}{w:World}{v:Value}{xs:List (List UInt8)}(h:aY RTx 1 9 B B w v xs)(ty:TypeId)(q:Nat)(s:ByteArray)(hs:s.size<=140737488355328)(hc:∀ j u,[Value.string s][j]?=some u->w.cell? ⟨q,j,none⟩=some u)(hn:xs.length<=1000000)(hb:B<=w.heap.size) :
 ∃ v' w',(Builtin.append_ #[102,102] ty #[v,.slice (some ⟨q,0,none⟩) 1 1]).run prog w = .ok v' w'/\aY RTx 1 9 B B w' v' (xs ++ [s.data.toList])/\Below B w w':=by
 obtain⟨i0,hi,cH,bx,cr⟩:=info_parts Tryz.infoStrV;exact h.push (P:=prog) 102 ty i0 _ 16 underlying102 hi cH bx cr rfl (by decide) (by decide) q _ s.data.toList rfl (λu hu=>by simp at hu;subst hu;rfl) hc ⟨s,rfl,hs,rfl⟩ hn rB (bQ _) hb
theorem Np.aFY{n z:List UInt8}(h:Np.aT n z=true)(hne:n≠z):Np.ao z=true/\(Np.bY z).length<(Np.bY n).length:=by
 unfold Np.aT at h;simp only[Bool.and_eq_true] at h;refine⟨h.2.1,?_⟩;have hz:z≠[]:=λe=>by rw[e] at h;exact absurd h.2.1 (by decide)
 have h2:=h.2.2;rw[<-Np.vg hz,Np.xx] at h2;obtain⟨p,hp⟩:=h2
 have:p≠[]:=λe=>hne (Np.PV (by rw[hp,e];rfl))
 rw[hp,List.length_append]
 have:=List.length_pos_iff.2 this
 omega
def Rf(res:List (List UInt8)×Np.mK×Int)(w:World)(e:Ending)(w':World):Prop:=
 ∃ (v:Value) (qn:ByteArray),e = .returned (.tuple #[v,.agg #[.string qn,.int .i64 res.2.1.2],.int .i64 res.2.2])/\qn.data.toList=res.2.1.1/\qn.size<=140737488355328/\SlR RTx 1 w' w'.heap.size v res.1/\Below w.heap.size w w'
theorem g8{α:Type}{R:aUJ α}{sz:Nat}(w:World)(B:Nat):SlR R sz w B (.slice none 0 0) ([]:List α):=⟨none,0,rfl,by simp,by simp,λi x h=>by simp at h⟩
def Np.kp(pre:List (List UInt8))(r:List (List UInt8)×Np.mK×Int):List (List UInt8)×Np.mK×Int:=if r.2.2=0 then (pre++r.1,([],0),0) else ([],r.2.1,r.2.2)
theorem Np.QJ(known:List Np.Signed):∀ (k:Nat) (n:List UInt8),((Np.bW known k n).2.2=0->(Np.bW known k n).2.1=([],0))/\((Np.bW known k n).2.2≠0->(Np.bW known k n).1 = [])
 | 0,n=>by simp[Np.bW]
 | k+1,n=>by
   unfold Np.bW;split
   ·simp
   ·split
    ·simp
    ·split
     ·simp
     ·split
      ·simp
      ·dsimp only;split<;>simp_all
theorem Np.aLY(known:List Np.Signed)(k:Nat)(n:List UInt8):Np.kp [] (Np.bW known k n)=Np.bW known k n:=by
 obtain⟨h1,h2⟩:=Np.QJ known k n;unfold Np.kp;generalize Np.bW known k n=r at h1 h2;obtain⟨l,q,e⟩:=r;dsimp only at h1 h2 |-;split
 ·rename_i he;rw[h1 he,he];rfl
 ·rename_i he;rw[h2 he]
theorem Np.aMZ(known:List Np.Signed)(pre:List (List UInt8))(k:Nat):Np.kp pre (Np.bW known (k+1) [46])=(pre ++ [[46]],([],0),0):=by
 unfold Np.kp Np.bW;simp
theorem Np.aMQ{known:List Np.Signed}{n:List UInt8}(pre:List (List UInt8))(k:Nat)(hr:n≠[46])(h:Np.cJ known n 6=none):Np.kp pre (Np.bW known (k+1) n)=([],(n,6),4):=by
 unfold Np.kp Np.bW;rw[Qc hr,h];simp
theorem Np.aLX{known:List Np.Signed}{n:List UInt8}{s:Np.Signed}(pre:List (List UInt8))(k:Nat)(hr:n≠[46])(h:Np.cJ known n 6=some s)(h0:s.sigs = []):Np.kp pre (Np.bW known (k+1) n)=([],([],0),31):=by
 have e:Np.bW known (k+1) n=([],([],0),31):=by rw[Np.bW,Qc hr,h];dsimp only;rw[h0]
 unfold Np.kp;rw[e];simp
theorem Np.QL{known:List Np.Signed}{n:List UInt8}{s:Np.Signed}{g:Np.Sig}{r:List Np.Sig}(pre:List (List UInt8))(k:Nat)(hr:n≠[46])(h:Np.cJ known n 6=some s)(h0:s.sigs=g::r)(hb:(!Np.aT n g.zone||n == g.zone)=true):Np.kp pre (Np.bW known (k+1) n)=([],([],0),31):=by
 have e:Np.bW known (k+1) n=([],([],0),31):=by rw[Np.bW,Qc hr,h];dsimp only;rw[h0];dsimp only;rw[QbQ hb]
 unfold Np.kp;rw[e];simp
theorem Np.aMJ{known:List Np.Signed}{n:List UInt8}{s:Np.Signed}{g:Np.Sig}{r:List Np.Sig}(pre:List (List UInt8))(k:Nat)(hr:n≠[46])(h:Np.cJ known n 6=some s)(h0:s.sigs=g::r)(hb:(!Np.aT n g.zone||n == g.zone)=false):Np.kp pre (Np.bW known (k+1) n)=Np.kp (pre ++ [n]) (Np.bW known k g.zone):=by
 have e:Np.bW known (k+1) n=match Np.bW known k g.zone with | (l,q,e)=>if e=0 then (n::l,([],0),0) else ([],q,e):=by
  rw[Np.bW,Qc hr,h];dsimp only;rw[h0];dsimp only;rw[Qc (by rw[hb];simp)]
 rw[e];generalize Np.bW known k g.zone=W;obtain⟨l,q,e⟩:=W;unfold Np.kp;dsimp only;by_cases he:e=0
 ·simp[he]
 ·simp[he]
theorem ae{w:World}{X:Nat}(l:List Value){T:TypeId}(h:w.heap[X]?=some (.cells l.toArray T (0,0))):∀ (i:Nat) v,l[i]?=some v->w.cell? ⟨X,i,none⟩=some v:=λi v hi=>by
 unfold World.cell?;dsimp only;rw[h];simpa using hi
theorem aY.low{α:Type}{R:aUJ α}{sz:Nat}{e:TypeId}{base B:Nat}{w w':World}{v:Value}{xs:List α}(h:aY R sz e base B w v xs)(hr:∀ r x,R w B r x->R w' B r x)(hb:∀ g,base<=g->w'.heap[g]?=w.heap[g]?):aY R sz e base B w' v xs:=by
 obtain⟨rows,h1,h2,h3⟩:=h;exact⟨rows,h1,vl h2 (λg hg=>hb g (h2.lt g hg).1),λi r x hr' hx=>⟨(h3 i r x hr' hx).1,hr _ _ (h3 i r x hr' hx).2⟩⟩
def aDJ:Value->List UInt8
 | .string s=>s.data.toList
 | _=>[]
theorem aMK(kv adv:Value)(known:List Np.Signed)(an zone:ByteArray)(aty al at' dr:Int)(Dn:Np.ao zone.data.toList=true)(w:World)(hk:SlR aB 5 w w.heap.size kv known)(ha:∃ A n c,adv = .slice A n c) :
 Calls prog 53 #[wm kv an aty al adv at' dr,.string zone] w (Rf (Np.bW known 10 zone.data.toList) w):=by
 have HK:=jq hk;have HA:=jq ha;obtain⟨A,N,C,rfl,_,_,_⟩:=aM hk;obtain⟨aA,aN,aC,rfl⟩:=ha;obtain⟨RES,co⟩:=aRZ (Np.bW known 10 zone.data.toList);rw[co];have aO:Hid (RES=Np.kp [] (Np.bW known 10 zone.data.toList)):=jq (by rw[Np.aLY,co]);have vf:=nL Dn;have yA:=jq Dn;have Aa:(Np.bY zone.data.toList).length<=8:=by
  have h1:=Cc Dn;rwa [<-Np.rA,List.length_reverse] at h1
 unfold wm;obtain⟨w1,ah⟩:=aRZ (w.alloc (.cells #[.slice A N C,.string an,.int .i64 aty,.int .i64 al,.slice aA aN aC,.int .i64 at',.int .i64 dr] 101));have z1:w1.heap.size=w.heap.size+1:=by rw[<-ah];simp
 obtain⟨w0,cN⟩:=aRZ (w1.alloc (.cells #[.string ⟨#[]⟩,.int .i64 0] 27));have z0:w0.heap.size=w.heap.size+1+1:=by rw[<-cN];simp[z1]
 have ix:Below w.heap.size w w0:=by rw[<-cN,<-ah];exact (blAl).alloc (by simp) _
 have ay:Below w1.heap.size w1 w0:=by rw[<-cN];exact aj _ _
 have tg:=bD (r:=[.slice A N C,.string an,.int .i64 aty,.int .i64 al,.slice aA aN aC,.int .i64 at',.int .i64 dr]) rfl ah;have ep:Hid (∀ wz,Below w0.heap.size w0 wz->∀ (j:Nat) u,[Value.slice A N C,.string an,.int .i64 aty,.int .i64 al,.slice aA aN aC,.int .i64 at',.int .i64 dr][j]?=some u->wz.cell? ⟨w.heap.size,j,none⟩=some u):=jq (λwz hb j u hj=>aQY hb ((cl ay (by omega)).trans (tg j u hj)));have Nr:w0.heap[w.heap.size+1]?=some (.cells #[.string ⟨#[]⟩,.int .i64 0] 27 (0,0)):=by
  have:=heap_alloc_new w1 (.cells #[.string ⟨#[]⟩,.int .i64 0] 27)
  rwa [cN,z1] at this
 have ES:=jq Nr;have aG:=jq ix;obtain⟨wb,te⟩:=aRZ (w0.alloc (.cells #[.string zone] 9));have HO:Hid (aY RTx 1 9 (w.heap.size+1+1) (w.heap.size+1+1) wb (.slice (some ⟨w.heap.size+1+1,0,none⟩) 1 1) ([] ++ [zone.data.toList])):=jq (by rw[<-te,<-z0];exact PQ w0 zone (by omega));have dW:Hid (Below w0.heap.size w0 wb):=jq (by rw[<-te];exact aj _ _);clear hk Dn co ix ay tg Nr;go_enter func53,ntmps53;go_wp2_with fail;clear cN ah z1;have lb:w.heap.size+1+1<wb.heap.size:=by rw[<-te];simp[z0]
 have nr:=jq z0;clear z0 te;go_loopw [7,8] (λwv nv wr=>∃ (k m:Nat) (n:ByteArray) (A':Option Addr) (c':Nat) (pre:List (List UInt8)),nv = .string n/\wv = .slice A' m c'/\n.size<=60/\(Np.bY n.data.toList).length<k/\m+k=11/\Hid (Np.ao n.data.toList=true)/\Hid (RES=Np.kp pre (Np.bW known k n.data.toList))/\Hid ((pre ++ [n.data.toList]).length=m)/\Hid (aY RTx 1 9 (w.heap.size+1+1) (w.heap.size+1+1) wr (.slice A' m c') (pre ++ [n.data.toList]))/\Hid (Below w0.heap.size w0 wr)) (λ_ nv _=>(Np.bY (aDJ nv)).length)
 case atStart=>exact⟨10,1,zone,_,1,[],rfl,rfl,vf,by omega,rfl,yA,aO,jq rfl,HO,dW⟩
 case round=>
  obtain⟨k,m,n,A',c',pre,rfl,rfl,xa,gT,gH,eC,gz,Bz,yl,HB⟩:=hrel;obtain⟨ws,rfl⟩:=aRX wr;have BP:=jq (aG.out.trans (HB.out.mono aG.out.size));have zm:ws.heap[w.heap.size+1]?=some (.cells #[.string ⟨#[]⟩,.int .i64 0] 27 (0,0)):=(HB.out.block _ (by have:=nr.out;omega)).trans ES.out;have Tr:=jq zm;have q0:=ae [_,_] zm 0 _ rfl;have q1:=ae [_,_] zm 1 _ rfl;have fq:∀ i,ws.frozen? ⟨w.heap.size+1,i,none⟩=false:=λi=>by simp[World.frozen?,zm]
  clear zm;by_cases hr:n.data.toList = [46]
  ·have h2:(n.toList == [46])=true:=by rw[dQ,hr];rfl
   have HE:Hid (RES=(pre ++ [n.data.toList],([],0),0)):=jq (by
    obtain⟨k',rfl⟩:∃ k',k=k'+1:=⟨k - 1,by omega⟩;rw[gz.out,hr,Np.aMZ])
   have eH:=jq (yl.out.slr AG (by have:=HB.out.size;have:=nr.out;omega) (by rw[Bz.out];omega));clear hr gz;go_wp2_with fail;refine bodyPost_ret (v:=.tuple #[.slice A' m c',.agg #[.string ⟨#[]⟩,.int .i64 0],.int .i64 0]) (by simp[results,results53,go_sem,q0,q1]) rfl ?_;have cH:=nr.out;have dV:=HB.out.size;refine⟨_,⟨#[]⟩,by rw[HE.out],by rw[HE.out],by decide,?_,(BP.out.blSe (p:=⟨w.heap.size+1,0,none⟩) _).blSe (p:=⟨w.heap.size+1,1,none⟩) _⟩;rw[HE.out];refine aY.slr (aY.low yl.out (λr x h=>h) (λg hg=>?_)) AG ?_ (by rw[Bz.out];omega)
   ·simp only[World.setCell,Array.getElem?_modify];rw[Qc (by omega),Qc (by omega)]
   ·simp[World.setCell];omega
  ·have h2:(n.toList == [46])=false:=by rw[dQ];simpa using hr
   have lT:=jq hr;obtain⟨k',rfl⟩:∃ k',k=k'+1:=⟨k - 1,by omega⟩;have f0:=ep.out ws HB.out 0 _ rfl;have f1:=ep.out ws HB.out 1 _ rfl;have f2:=ep.out ws HB.out 2 _ rfl;have f3:=ep.out ws HB.out 3 _ rfl;have f4:=ep.out ws HB.out 4 _ rfl;have f5:=ep.out ws HB.out 5 _ rfl;have f6:=ep.out ws HB.out 6 _ rfl;clear hr q0 q1 fq;go_wp2_with fail;refine (IK (.slice A N C) (.slice aA aN aC) known an n aty al at' dr 6 ws w.heap.size BP.out.size (HK.out.keep az BP.out) ⟨_,_,_,rfl⟩).mono ?_;rintro e w3 ⟨s,a,b,dA,dn,dc,gA,gn,gc,rfl,ai,hf,hz⟩;have am:=jq (HB.out.trans (ai.mono HB.out.size));have fK:=jq ai;have iM:=jq ((ai.block (w.heap.size+1) (by have:=HB.out.size;have:=nr.out;omega)).trans Tr.out);obtain⟨w4,dD⟩:=aRZ (w3.alloc (.cells #[.string s,.int .i64 a,.int .i64 b,.slice dA dn dc,.slice gA gn gc] 44));have av:Below w3.heap.size w3 w4:=by rw[<-dD];exact aj _ _
   have ve:w3.heap.size<w4.heap.size:=by rw[<-dD];simp
   have O9:=bD (r:=[.string s,.int .i64 a,.int .i64 b,.slice dA dn dc,.slice gA gn gc]) rfl dD;have aF:=jq (am.out.trans (av.mono am.out.size));have pl:=jq (av.mono (yQ BP.out.size fK.out.size));have eG:=jq (fK.out.trans (av.mono fK.out.size));have lV:=jq (aG.out.trans (aF.out.mono aG.out.size));have zl:w4.heap[w.heap.size+1]?=some (.cells #[.string ⟨#[]⟩,.int .i64 0] 27 (0,0)):=(av.block _ (by have:=am.out.size;have:=nr.out;omega)).trans iM.out;have kz:=jq zl;have q0:=ae [_,_] zl 0 _ rfl;have q1:=ae [_,_] zl 1 _ rfl;have fq:∀ i,w4.frozen? ⟨w.heap.size+1,i,none⟩=false:=λi=>by simp[World.frozen?,zl]
   have y4:=O9 4 _ rfl;have HF:=jq hf;have dG:=jq hz;have cH:=nr.out;have xp:w.heap.size+1<w3.heap.size:=by have:=am.out.size;omega
   have B5:=jq cH;obtain⟨O,hO⟩:=aRZ (Np.cJ known n.data.toList 6);rw[hO];have vL:=jq hO;clear hO zl O9 av ai hf hz cH f0 f1 f2 f3 f4 f5 f6
   cases O with
   | none=>
    have HE:Hid (RES=([],(n.data.toList,6),4)):=jq (by rw[gz.out,Np.aMQ pre k' lT.out vL.out]);clear gz;simp only[Option.isSome_none];go_wp2_with fail;clear dD;go_wp2_with fail;refine bodyPost_ret (v:=.tuple #[.slice none 0 0,.agg #[.string n,.int .i64 6],.int .i64 4]) (by simp[results,results53,go_sem,q0,q1]) rfl ?_;exact⟨_,n,by rw[HE.out],by rw[HE.out],by omega,by rw[HE.out];exact g8 _ _,(lV.out.blSe (p:=⟨w.heap.size+1,0,none⟩) _).blSe (p:=⟨w.heap.size+1,1,none⟩) _⟩
   | some x=>
    simp only[Option.isSome_some];obtain⟨s',dA',dn',dc',gA',gn',gc',he,_,_,_,kV,_,CX⟩:=gZ (HF.out x vL.out);simp only[List.cons.injEq,Value.string.injEq,Value.int.injEq,Value.slice.injEq,true_and,and_true] at he;obtain⟨-,-,-,-,rfl,rfl,rfl⟩:=he;have Sq:=jq (CX.keep cK pl.out)
    cases uD:x.sigs with
    | nil=>
     have iZ:gn=0:=by rw[<-kV,uD];rfl
     subst iZ;have HE:Hid (RES=([],([],0),31)):=jq (by rw[gz.out,Np.aLX pre k' lT.out vL.out uD]);clear gz kV uD CX;go_wp2_with fail;clear dD;go_wp2_with fail;refine bodyPost_ret (v:=.tuple #[.slice none 0 0,.agg #[.string ⟨#[]⟩,.int .i64 0],.int .i64 31]) (by simp[results,results53,go_sem,q0,q1]) rfl ?_;exact⟨_,⟨#[]⟩,by rw[HE.out],by rw[HE.out],by decide,by rw[HE.out];exact g8 _ _,(lV.out.blSe (p:=⟨w.heap.size+1,0,none⟩) _).blSe (p:=⟨w.heap.size+1,1,none⟩) _⟩
    | cons g r=>
     obtain⟨gA',gc',hv',wR,_,j9⟩:=Sq.out;simp only[Value.slice.injEq] at hv';obtain⟨rfl,iZ,rfl⟩:=hv';obtain⟨gb,go,ge,rfl,wP,_,hce,z,gW,dV,rfl⟩:=j9 0 g (by rw[uD];rfl);have g0:w4.cell? ⟨gb,go,none⟩=some (.string z):=by have:=hce 0 _ rfl;simpa using this
     have aZX:0<gn:=by rw[<-kV,uD];simp
     have aZY:(0:Int)<(gn:Int):=by omega
     have a0Q:((gn:Int) == 0)=false:=by simp only[beq_eq_false_iff_ne,ne_eq];omega
     have yH:=jq gW;have Ex:=jq uD;clear iZ j9 hce gW kV uD CX;go_wp2_with fail;clear dD;go_wp2_with fail;refine (Ic n z (by omega) dV w4).mono ?_;rintro e w5 ⟨rfl,aI⟩;have aK:=jq (aF.out.trans (aI.mono aF.out.size));have Rp:=jq (eG.out.trans (aI.mono eG.out.size));have nX:=jq (aG.out.trans (aK.out.mono aG.out.size));have CF:w5.heap[w.heap.size+1]?=some (.cells #[.string ⟨#[]⟩,.int .i64 0] 27 (0,0)):=(aI.block _ (by omega)).trans kz.out;have q05:=ae [_,_] CF 0 _ rfl;have q15:=ae [_,_] CF 1 _ rfl;have fq5:∀ i,w5.frozen? ⟨w.heap.size+1,i,none⟩=false:=λi=>by simp[World.frozen?,CF]
     have xq:w.heap.size+1<w5.heap.size:=by have:=aI.size;omega
     generalize (if Np.ao n.data.toList&&Np.ao z.data.toList then (0:Int) else 11)=cd;obtain⟨q,hq⟩:=aRZ (Np.aT n.data.toList z.data.toList);rw[hq];have HU:Hid (Np.aT n.data.toList g.zone=q):=jq (by rw[<-yH.out];exact hq);clear hq aI CF q0 q1 fq y4 g0
     cases q with
     | false=>
      have HE:Hid (RES=([],([],0),31)):=jq (by rw[gz.out,Np.QL pre k' lT.out vL.out Ex.out (by rw[HU.out];rfl)]);clear gz;go_wp2_with fail;refine bodyPost_ret (v:=.tuple #[.slice none 0 0,.agg #[.string ⟨#[]⟩,.int .i64 0],.int .i64 31]) (by simp[results,results53,go_sem,q05,q15]) rfl ?_;exact⟨_,⟨#[]⟩,by rw[HE.out],by rw[HE.out],by decide,by rw[HE.out];exact g8 _ _,(nX.out.blSe (p:=⟨w.heap.size+1,0,none⟩) _).blSe (p:=⟨w.heap.size+1,1,none⟩) _⟩
     | true=>
      by_cases uL:n.data.toList=z.data.toList
      ·have h3:(n.toList == z.toList)=true:=by rw[dQ,dQ,uL];simp
       have EN:Hid ((n.data.toList == g.zone)=true):=jq (by rw[<-yH.out];simpa using uL);clear uL;have HE:Hid (RES=([],([],0),31)):=jq (by rw[gz.out,Np.QL pre k' lT.out vL.out Ex.out (by rw[HU.out,EN.out];rfl)]);clear gz;go_wp2_with fail;refine bodyPost_ret (v:=.tuple #[.slice none 0 0,.agg #[.string ⟨#[]⟩,.int .i64 0],.int .i64 31]) (by simp[results,results53,go_sem,q05,q15]) rfl ?_;exact⟨_,⟨#[]⟩,by rw[HE.out],by rw[HE.out],by decide,by rw[HE.out];exact g8 _ _,(nX.out.blSe (p:=⟨w.heap.size+1,0,none⟩) _).blSe (p:=⟨w.heap.size+1,1,none⟩) _⟩
      ·have h3:(n.toList == z.toList)=false:=by rw[dQ,dQ];simpa using uL
       have EN:Hid ((n.data.toList == g.zone)=false):=jq (by rw[<-yH.out];simpa using uL);obtain⟨Hf,uN⟩:=Np.aFY (n:=n.data.toList) (z:=z.data.toList) (by rw[yH.out];exact HU.out) uL;have Z4:=nL Hf;have Ve:=jq Hf;have iL:Hid (RES=Np.kp (pre ++ [n.data.toList]) (Np.bW known k' z.data.toList)):=jq (by rw[gz.out,Np.aMJ pre k' lT.out vL.out Ex.out (by rw[HU.out,EN.out];rfl),yH.out]);clear uL Hf gz q05 q15 fq5;have Nq:=yl.out.keep rB Rp.out (by have:=HB.out.size;have:=nr.out;omega);obtain⟨Q,hQ⟩:=aRZ w5.heap.size;obtain⟨wh,li⟩:=aRZ (w5.alloc (.cells #[.string z] 9));have ij:Below w5.heap.size w5 wh:=by rw[<-li];exact aj _ _
       have ZJ:w.heap.size+1+1<=w5.heap.size:=by omega
       obtain⟨v',wj,ed,oH,aJ⟩:=aqY (Nq.keep rB ij ZJ) 102 Q z dV (bD (r:=[.string z]) hQ li) (by rw[Bz.out];omega) (by have:=ij.size;omega);obtain⟨A2,n2,c4,rfl,fG⟩:=oH.letF;have zV:n2=m+1:=by rw[<-fG,List.length_append,Bz.out];rfl
       subst zV;have tA:=jq ed;have yk:=jq oH;have ST:=jq fG;have cU:=jq (aK.out.trans ((ij.mono aK.out.size).trans (aJ.mono (by have:=nr.out;omega))));clear Nq ed oH aJ ij fG;go_wp2_with (at_builtin;refine AT rfl _ _ 102 rfl _ _ _ wj rfl rfl tA.out ?_;clear li);go_roundw
       case rel=>exact⟨k',m+1,z,A2,c4,pre ++ [n.data.toList],rfl,rfl,Z4,by omega,by omega,Ve,iL,ST,yk,cU⟩
       case measure=>exact uN
end
section
open Go.RowKit
attribute [local go_sem] Oper.semAt_some
def vq(b:Bool):Int:=if b then 0 else 31
theorem QC(b:Bool)(w:World):Calls prog 122 #[.bool b] w (aUZ w (.int .i64 (vq b))):=by
 cases b with
 | true=>
  go_enter func122,ntmps122;go_wp2_with fail;go_ret;exact⟨rfl,rfl⟩
 | false=>
  go_enter func122,ntmps122;go_wp2_with fail;go_ret;exact⟨rfl,rfl⟩
theorem W8:∀ args w,(callFunc 121 args).run prog w = .ok (.enter 121 args) w:=enters_of func121 (by kernel_rfl) rfl
theorem W9:∀ args w,(callFunc 123 args).run prog w = .ok (.enter 123 args) w:=enters_of func123 (by kernel_rfl) rfl
theorem Xa:∀ args w,(callFunc 124 args).run prog w = .ok (.enter 124 args) w:=enters_of func124 (by kernel_rfl) rfl
theorem XB(Wy I F An Kb b o n c i:Nat)(nm:ByteArray)(w:World)(hi:i<n)(hn:n<=1000)(h0:w.cell? ⟨Wy,0,none⟩=some (.slice (some ⟨b,o,none⟩) n c))(h1:w.cell? ⟨I,0,none⟩=some (.int .i64 i))(h2:w.cell? ⟨b,o+i,none⟩=some (.string nm))(hr:nm.data.toList = [46]) :
 Calls prog 121 #[.pointer (some ⟨Wy,0,none⟩),.pointer (some ⟨I,0,none⟩),.pointer (some ⟨F,0,none⟩),.pointer (some ⟨An,0,none⟩),.pointer (some ⟨Kb,0,none⟩)] w (aUZ w (.int .i64 0)):=by
 have dS:(0:Int)<=(i:Int):=by omega
 have dp:(i:Int)<(n:Int):=by omega
 have h3:(nm.toList == [46])=true:=by rw[dQ,hr];rfl
 clear hr;go_enter func121,ntmps121;go_wp2_with fail;go_ret;exact⟨rfl,rfl⟩
def AU(F:Nat)(kv:Value)(an:ByteArray)(aty al:Int)(adv:Value)(t d:Int)(w:World):Prop:=∀ (j:Nat) u,[kv,Value.string an,.int .i64 aty,.int .i64 al,adv,.int .i64 t,.int .i64 d][j]?=some u->w.cell? ⟨F,j,none⟩=some u
theorem Qm{w:World}{X:Nat}{u:List Value}{T:TypeId}(hu:u.length=5)(h:w.heap[X]?=some (.cells u.toArray T (0,0)))(a b c d e:Value):(((((w.setCell ⟨X,0,none⟩ a).setCell ⟨X,1,none⟩ b).setCell ⟨X,2,none⟩ c).setCell ⟨X,3,none⟩ d).setCell ⟨X,4,none⟩ e).heap[X]?=some (.cells [a,b,c,d,e].toArray T (0,0)):=by
 match u,hu with
 | [u0,u1,u2,u3,u4],_=>simp[World.setCell,Array.getElem?_modify,h]
theorem yY{w w1:World}{X:Nat}(h:w.grownBy w1 (some X))(o:Nat)(v:Value):w.grownBy (w1.setCell ⟨X,o,none⟩ v) (some X):=
 ⟨h.os,h.tape,h.output,by have:=h.size;simpa [World.setCell] using this,λk hk hne=>by
  rw[<-h.block k hk hne];simp only[World.setCell,Array.getElem?_modify];rw[Qc (λe=>hne (by rw[e]))]⟩
theorem MP(w:World)(X:Nat):w.grownBy w (some X):=⟨rfl,rfl,rfl,bQ _,λ_ _ _=>rfl⟩
theorem Co(w:World)(X:Nat)(a b c d e:Value):w.grownBy (((((w.setCell ⟨X,0,none⟩ a).setCell ⟨X,1,none⟩ b).setCell ⟨X,2,none⟩ c).setCell ⟨X,3,none⟩ d).setCell ⟨X,4,none⟩ e) (some X):=
 yY (yY (yY (yY (yY (MP w X) 0 a) 1 b) 2 c) 3 d) 4 e
theorem MO{w w1 w2:World}{X:Nat}(h:Below w.heap.size w w1)(hX:X<w.heap.size)(hg:w1.grownBy w2 (some X)):w.grownBy w2 (some X):=
 ⟨hg.os.trans h.os,hg.tape.trans h.tape,hg.output.trans h.output,yQ h.size hg.size,λk hk hne=>(hg.block k (lqQ hk h.size) hne).trans (h.block k hk)⟩
theorem MQ{w w1 w2:World}{X:Nat}(hg:w.grownBy w1 (some X))(h:Below w1.heap.size w1 w2):w.grownBy w2 (some X):=
 ⟨h.os.trans hg.os,h.tape.trans hg.tape,h.output.trans hg.output,yQ hg.size h.size,λk hk hne=>(h.block k (lqQ hk hg.size)).trans (hg.block k hk hne)⟩
theorem wn{w w1:World}{X B:Nat}(hg:w.grownBy w1 (some X))(hB:B<=X)(hw:B<=w.heap.size):Below B w w1:=(vQ _ _).grown hg hw (λk hk=>by cases hk;exact hB)
theorem aQJ(w:World)(B:Nat):aB w B [.string ⟨#[]⟩,.int .i64 0,.int .i64 0,.slice none 0 0,.slice none 0 0] Np.iG:=⟨⟨#[]⟩,_,_,rfl,by decide,g8 _ _,g8 _ _,rfl⟩
theorem AV.reads{B:Nat}{known:List Np.Signed}{n:List UInt8}{t:Int}{w:World}{e:Ending}{w':World}(h:AV B known n t w e w'):∃ (s:ByteArray) (a b:Int) (dA:Option Addr) (dn dc:Nat) (gA:Option Addr) (gn gc:Nat),e = .returned (.tuple #[.agg #[.string s,.int .i64 a,.int .i64 b,.slice dA dn dc,.slice gA gn gc],.bool (Np.cJ known n t).isSome])/\Below w.heap.size w w'/\
 aB w' B [.string s,.int .i64 a,.int .i64 b,.slice dA dn dc,.slice gA gn gc] ((Np.cJ known n t).getD Np.iG):=by
 obtain⟨s,a,b,dA,dn,dc,gA,gn,gc,he,hb,hf,hz⟩:=h;refine⟨s,a,b,dA,dn,dc,gA,gn,gc,he,hb,?_⟩
 cases hk:Np.cJ known n t with
 | none=>
  obtain⟨rfl,rfl,rfl,rfl,rfl,rfl,rfl,rfl,rfl⟩:=hz hk;exact aQJ _ _
 | some x=>exact hf x hk
def I8(B An:Nat)(x:Np.Signed)(w w':World):Prop:=∃ ea:List Value,aB w' B ea x/\w'.heap[An]?=some (.cells ea.toArray 44 (0,0))/\w.grownBy w' (some An)
def I9(B An:Nat)(x:Np.Signed)(r:Bool)(w:World)(e:Ending)(w':World):Prop:=∃ ea:List Value,e = .returned (.int .i64 (vq r))/\aB w' B ea x/\w'.heap[An]?=some (.cells ea.toArray 44 (0,0))/\w.grownBy w' (some An)
theorem XA(Wy I F An Kb B b o n c i:Nat)(nm ab:ByteArray)(kv adv ksv:Value)(known:List Np.Signed)(an:ByteArray)(aty al t d:Int)(ks:List Np.Key)(ea:List Value)(w:World)(hi:i+1<n)(hn:n<=1000)
 (h0:w.cell? ⟨Wy,0,none⟩=some (.slice (some ⟨b,o,none⟩) n c)) (h1:w.cell? ⟨I,0,none⟩=some (.int .i64 i)) (h2:w.cell? ⟨b,o+i,none⟩=some (.string nm)) (h3:w.cell? ⟨b,o+(i+1),none⟩=some (.string ab)) (kZ:nm.data.toList≠[46])
 (hF:AU F kv an aty al adv t d w) (hK:w.cell? ⟨Kb,0,none⟩=some ksv) (zH:ea.length=5) (jV:w.heap[An]?=some (.cells ea.toArray 44 (0,0))) (hne:Wy≠An/\I≠An/\F≠An/\Kb≠An/\b≠An) (hB:B<=An) (hR:bL w B) (hk:SlR aB 5 w B kv known) (ha:∃ A n c,adv = .slice A n c)
 (q8:∀ w',w.grownBy w' (some An)->SlR iS 2 w' w'.heap.size ksv ks) :
 Calls prog 121 #[.pointer (some ⟨Wy,0,none⟩),.pointer (some ⟨I,0,none⟩),.pointer (some ⟨F,0,none⟩),.pointer (some ⟨An,0,none⟩),.pointer (some ⟨Kb,0,none⟩)] w
  (I9 B An ((Np.cJ known nm.data.toList 6).getD Np.iG) (Np.e8 ((Np.cJ known nm.data.toList 6).getD Np.iG) ab.data.toList ks t d) w):=by
 obtain⟨u0,u1,u2,u3,u4,rfl⟩:∃ u0 u1 u2 u3 u4,ea = [u0,u1,u2,u3,u4]:=by match ea,zH with | [u0,u1,u2,u3,u4],_=>exact⟨u0,u1,u2,u3,u4,rfl⟩
 obtain⟨X,hX⟩:=aRZ ((Np.cJ known nm.data.toList 6).getD Np.iG);rw[hX];obtain⟨r,hr⟩:=aRZ (Np.e8 X ab.data.toList ks t d);rw[hr];have EV:=jq hr;have HX:=jq hX;have rP:=jq hk;have dK:=jq hR;have yg:=jq q8;have fJ:=jq jV;have Sj:=jq hF;obtain⟨n1,n2,n3,n4,n5⟩:=hne;obtain⟨kA,kN,kC,rfl,_,_,_⟩:=aM hk;obtain⟨aA,aN,aC,rfl⟩:=ha;obtain⟨sA,sN,sC,rfl,_,_,_⟩:=aM (q8 w ⟨rfl,rfl,rfl,bQ _,λ_ _ _=>rfl⟩);have lW:=World.block_lt_of_cell? w _ h0;have lI:=World.block_lt_of_cell? w _ h1;have lb:=World.block_lt_of_cell? w _ h2;have lF:=World.block_lt_of_cell? w _ (hF 0 _ rfl);have lK:=World.block_lt_of_cell? w _ hK;have lA:=(eQ.1 jV).1;simp only at lW lI lb lF lK;have f0:=hF 0 _ rfl;have f1:=hF 1 _ rfl;have f2:=hF 2 _ rfl;have f3:=hF 3 _ rfl;have f4:=hF 4 _ rfl;have f5:=hF 5 _ rfl;have f6:=hF 6 _ rfl;have dS:(0:Int)<=(i:Int):=by omega
 have dp:(i:Int)<(n:Int):=by omega
 have i7:(nm.toList == [46])=false:=by rw[dQ];simpa using kZ
 have fl:=jq (yQ hB (Nat.le_of_lt lA));clear hX hk hR q8 jV hF hr kZ;go_enter func121,ntmps121;go_upto_region 3 with fail
 go_cut [] (λwx=>I8 B An X w wx)
 case first=>
  go_region_with (go_at_call 120;refine (IK (.slice kA kN kC) (.slice aA aN aC) known an nm aty al t d 6 w.drew B fl.out (rP.out.keep az ((vQ _ w).drew)) ⟨_,_,_,rfl⟩).mono ?_;intro e w3 hp;obtain⟨s,a,bb,dA,dn,dc,gA,gn,gc,rfl,ai,aZ⟩:=hp.reads;clear hp;have am:Hid (Below w.heap.size w w3):=jq ((vQ w.heap.size w).drew.trans ai);have rT:=jq aZ;have jo:=(am.out.block An lA).trans fJ.out;have pj:=jq jo;have t0:=ae [_,_,_,_,_] jo 0 _ rfl;have t1:=ae [_,_,_,_,_] jo 1 _ rfl;have t2:=ae [_,_,_,_,_] jo 2 _ rfl;have t3:=ae [_,_,_,_,_] jo 3 _ rfl;have t4:=ae [_,_,_,_,_] jo 4 _ rfl;have tf:∀ i,w3.frozen? ⟨An,i,none⟩=false:=(λi=>(by simp[World.frozen?,jo]));clear aZ ai jo)
  all_goals
   go_wp2_with fail;go_meet
   case rel=>
    have hg:=MO am.out lA (Co w3 An (.string s) (.int .i64 a) (.int .i64 bb) (.slice dA dn dc) (.slice gA gn gc));exact⟨_,by rw[<-HX.out];exact az _ _ _ _ _ rT.out (wn (Co w3 An _ _ _ _ _) hB (by have:=am.out.size;have:=fl.out;omega)),Qm rfl pj.out _ _ _ _ _,hg⟩
 case rest=>
  obtain⟨e5,xg,pL,jZ⟩:=hcut;obtain⟨w5,rfl⟩:=aRX wc;obtain⟨s,dA,dn,dc,gA,gn,gc,rfl,hs,au,_,_,hd,hg⟩:=gZ xg;have HS:=jq hs;have th:=jZ.size;have hc:∀ k o,k<w.heap.size->k≠An->w5.cell? ⟨k,o,none⟩=w.cell? ⟨k,o,none⟩:=λk o hk hne=>iQ (jZ.block k hk (λe=>hne (by cases e;rfl)));have b0:=(hc Wy 0 lW n1).trans h0;have b1:=(hc I 0 lI n2).trans h1;have b3:=(hc b (o+(i+1)) lb n5).trans h3;have bK:=(hc Kb 0 lK n4).trans hK;have g5:=(hc F 5 lF n3).trans f5;have g6:=(hc F 6 lF n3).trans f6;have y0:=ae [_,_,_,_,_] pL 0 _ rfl;have y1:=ae [_,_,_,_,_] pL 1 _ rfl;have y2:=ae [_,_,_,_,_] pL 2 _ rfl;have y3:=ae [_,_,_,_,_] pL 3 _ rfl;have y4:=ae [_,_,_,_,_] pL 4 _ rfl;have wR:∀ (g:bA w5) (p:Addr),p.block<w5.heap.size->g.w.cell? p=w5.cell? p:=λg p h=>g.cell p h;have m1:Wy<w5.heap.size:=by omega
  have m2:I<w5.heap.size:=by omega
  have m3:F<w5.heap.size:=by omega
  have m4:Kb<w5.heap.size:=by omega
  have m5:b<w5.heap.size:=by omega
  have m6:An<w5.heap.size:=by omega
  have ZP:IntKind.i64.wrap ((i:Int)+1)=(i:Int)+1:=IntWalk.i64_in _ (by omega);have i0:(0:Int)<=(i:Int)+1:=by omega
  have i1:(i:Int)+1<(n:Int):=by omega
  have i2:((i:Int)+1).toNat=i+1:=by omega
  have M4:Below B w w5:=wn jZ hB fl.out;have mh:=dK.out.keep M4;have M5:∀ g:bA w5,Calls prog 96 #[.agg #[.string s,.int .i64 X.set.type,.int .i64 X.set.life,.slice dA dn dc,.slice gA gn gc],.string ab,.slice sA sN sC,.int .i64 t,.int .i64 d] g.w λe w'=>e = .returned (.bool r)/\Below g.w.heap.size g.w w':=λg=>by
   have X8:B<=w5.heap.size:=by have:=fl.out;omega
   have wP:Below B w5 g.w:=g.below.mono X8;have CX:=g.below.size;refine (Iy ab t d _ ks s au X.set.type X.set.life _ _ X.set.data X.sigs g.w ((mh.keep wP).more (by omega)) ((hd.keep br wP).more bB (by omega)) ((hg.keep cK wP).more da (by omega)) (yg.out g.w (MQ jZ g.below))).mono ?_;rintro e w' ⟨rfl,hb⟩;rw[show (⟨⟨s.data.toList,X.set.type,X.set.life,X.set.data⟩,X.sigs⟩:Np.Signed)=X by rw[hs]];exact⟨by rw[EV.out],hb⟩
  have cy:=jq M5;have tG:=jq jZ;have tz:=jq pL;have qC:=jq xg;clear M5 jZ pL xg hd hg hs hc h0 h1 h2 h3 hK f0 f1 f2 f3 f4 f5 f6 mh M4;go_upto_region 4 with fail
  refine aTX ?_
  repeat (go_big_quiet_step (fail))
  go_big_quiet_step ((go_at_call 96;exact Calls.grow_of (cy.out _)))
  repeat (go_big_quiet_step (fail))
  go_big_quiet_step ((go_at_call 122;exact Calls.grow_same (QC r _)))
  repeat (go_big_quiet_step (fail))
  refine wpQuiet_nil ?_;rintro _ ⟨g,rfl⟩;have HE:Hid (Below w5.heap.size w5 g.w):=jq g.below;go_wp2_with fail;go_ret;exact⟨_,rfl,az _ _ _ _ _ qC.out (HE.out.mono (by have:=fl.out;omega)),(HE.out.block An m6).trans tz.out,MQ tG.out HE.out⟩
end
section
open Go.RowKit

end
section
open Go.RowKit
attribute [local go_sem] Oper.semAt_some
def Q6(B Kn Qb:Nat)(known:List Np.Signed)(nm:ByteArray)(w:World)(e:Ending)(w':World):Prop:=
 (∃ (x:Np.Signed) (ek:List Value),Np.cJ known nm.data.toList 7=some x/\e = .returned (.int .i64 0)/\aB w' B ek x/\w'.heap[Kn]?=some (.cells ek.toArray 44 (0,0))/\w.grownBy w' (some Kn))\/
 (Np.cJ known nm.data.toList 7=none/\e = .returned (.int .i64 4)/\w'.heap[Qb]?=some (.cells [Value.string nm,.int .i64 7].toArray 27 (0,0))/\(∀ k,k<w.heap.size->k≠Kn->k≠Qb->w'.heap[k]?=w.heap[k]?)/\Below B w w')
theorem set2{w:World}{X:Nat}{u:List Value}{T:TypeId}(hu:u.length=2)(h:w.heap[X]?=some (.cells u.toArray T (0,0)))(a b:Value):((w.setCell ⟨X,0,none⟩ a).setCell ⟨X,1,none⟩ b).heap[X]?=some (.cells [a,b].toArray T (0,0)):=by
 match u,hu with
 | [u0,u1],_=>simp[World.setCell,Array.getElem?_modify,h]
theorem XC(Wy I F An Qb B b o n c i:Nat)(nm:ByteArray)(kv adv:Value)(known:List Np.Signed)(an:ByteArray)(aty al t d:Int)(ea eq:List Value)(w:World)(hi:i<n)(hn:n<=1000)
 (h0:w.cell? ⟨Wy,0,none⟩=some (.slice (some ⟨b,o,none⟩) n c)) (h1:w.cell? ⟨I,0,none⟩=some (.int .i64 i)) (h2:w.cell? ⟨b,o+i,none⟩=some (.string nm))
 (hF:AU F kv an aty al adv t d w) (heq:eq.length=2) (hQ:w.heap[Qb]?=some (.cells eq.toArray 27 (0,0))) (zH:ea.length=5) (jV:w.heap[An]?=some (.cells ea.toArray 44 (0,0))) (hne:Wy≠An/\I≠An/\F≠An/\Qb≠An/\b≠An) (hB:B<=An) (M2:B<=Qb) (hk:SlR aB 5 w B kv known) (ha:∃ A n c,adv = .slice A n c) :
 Calls prog 123 #[.pointer (some ⟨F,0,none⟩),.pointer (some ⟨Wy,0,none⟩),.pointer (some ⟨I,0,none⟩),.pointer (some ⟨An,0,none⟩),.pointer (some ⟨Qb,0,none⟩)] w (Q6 B An Qb known nm w):=by
 obtain⟨v0,v1,rfl⟩:∃ v0 v1,eq = [v0,v1]:=by match eq,heq with | [v0,v1],_=>exact⟨v0,v1,rfl⟩
 obtain⟨u0,u1,u2,u3,u4,rfl⟩:∃ u0 u1 u2 u3 u4,ea = [u0,u1,u2,u3,u4]:=by match ea,zH with | [u0,u1,u2,u3,u4],_=>exact⟨u0,u1,u2,u3,u4,rfl⟩
 obtain⟨X,hX⟩:=aRZ ((Np.cJ known nm.data.toList 7).getD Np.iG);have HX:=jq hX;have rP:=jq hk;have fJ:=jq jV;have Sj:=jq hF;obtain⟨n1,n2,n3,n4,n5⟩:=hne;obtain⟨kA,kN,kC,rfl,_,_,_⟩:=aM hk;obtain⟨aA,aN,aC,rfl⟩:=ha;have lW:=World.block_lt_of_cell? w _ h0;have lI:=World.block_lt_of_cell? w _ h1;have lb:=World.block_lt_of_cell? w _ h2;have lF:=World.block_lt_of_cell? w _ (hF 0 _ rfl);have lQ:=(eQ.1 hQ).1;have ES:=jq hQ;have lA:=(eQ.1 jV).1;simp only at lW lI lb lF;have f0:=hF 0 _ rfl;have f1:=hF 1 _ rfl;have f2:=hF 2 _ rfl;have f3:=hF 3 _ rfl;have f4:=hF 4 _ rfl;have f5:=hF 5 _ rfl;have f6:=hF 6 _ rfl;have dS:(0:Int)<=(i:Int):=by omega
 have dp:(i:Int)<(n:Int):=by omega
 have fl:=jq (yQ hB (Nat.le_of_lt lA));clear hX hk jV hF hQ;go_enter func123,ntmps123;go_upto_region 2 with fail
 go_cut [6] (λtv wx=>tv = .bool (Np.cJ known nm.data.toList 7).isSome/\I8 B An X w wx)
 case first=>
  go_region_with (go_at_call 120;refine (IK (.slice kA kN kC) (.slice aA aN aC) known an nm aty al t d 7 w.drew B fl.out (rP.out.keep az ((vQ _ w).drew)) ⟨_,_,_,rfl⟩).mono ?_;intro e w3 hp;obtain⟨s,a,bb,dA,dn,dc,gA,gn,gc,rfl,ai,aZ⟩:=hp.reads;clear hp;have am:Hid (Below w.heap.size w w3):=jq ((vQ w.heap.size w).drew.trans ai);have rT:=jq aZ;have jo:=(am.out.block An lA).trans fJ.out;have pj:=jq jo;have t0:=ae [_,_,_,_,_] jo 0 _ rfl;have t1:=ae [_,_,_,_,_] jo 1 _ rfl;have t2:=ae [_,_,_,_,_] jo 2 _ rfl;have t3:=ae [_,_,_,_,_] jo 3 _ rfl;have t4:=ae [_,_,_,_,_] jo 4 _ rfl;have tf:∀ i,w3.frozen? ⟨An,i,none⟩=false:=(λi=>(by simp[World.frozen?,jo]));clear aZ ai jo)
  all_goals
   go_wp2_with fail;go_meet
   case rel=>
    have hg:=MO am.out lA (Co w3 An (.string s) (.int .i64 a) (.int .i64 bb) (.slice dA dn dc) (.slice gA gn gc));refine⟨rfl,?_⟩;exact⟨_,by rw[<-HX.out];exact az _ _ _ _ _ rT.out (wn (Co w3 An _ _ _ _ _) hB (by have:=am.out.size;have:=fl.out;omega)),Qm rfl pj.out _ _ _ _ _,hg⟩
 case rest=>
  obtain⟨rfl,e5,xg,pL,jZ⟩:=hcut;obtain⟨w5,rfl⟩:=aRX wc;have th:=jZ.size;have hc:∀ k o,k<w.heap.size->k≠An->w5.cell? ⟨k,o,none⟩=w.cell? ⟨k,o,none⟩:=λk o hk hne=>iQ (jZ.block k hk (λe=>hne (by cases e;rfl)));have b0:=(hc Wy 0 lW n1).trans h0;have b1:=(hc I 0 lI n2).trans h1;have b2:=(hc b (o+i) lb n5).trans h2;have Ab:w5.heap[Qb]?=some (.cells [v0,v1].toArray 27 (0,0)):=(jZ.block Qb lQ (λe=>n4 (by cases e;rfl))).trans ES.out;have q0:=ae [_,_] Ab 0 _ rfl;have q1:=ae [_,_] Ab 1 _ rfl;have fq:∀ i,w5.frozen? ⟨Qb,i,none⟩=false:=λi=>by simp[World.frozen?,Ab]
  have px:=jq Ab;have tG:=jq jZ;have tz:=jq pL;have qC:=jq xg;have bU:=jq (show Below B w w5 from wn jZ hB fl.out);obtain⟨O,hO⟩:=aRZ (Np.cJ known nm.data.toList 7);rw[hO];have HO:=jq hO;clear hc h0 h1 h2 f0 f1 f2 f3 f4 f5 f6 Ab jZ pL xg hO
  cases O with
  | some x=>
   simp only[Option.isSome_some];have ZV:X=x:=by rw[<-HX.out,HO.out];rfl
   subst ZV;go_wp2_with fail;go_ret;exact .inl ⟨X,_,HO.out,rfl,qC.out,tz.out,tG.out⟩
  | none=>
   simp only[Option.isSome_none];go_wp2_with fail;go_ret;refine .inr ⟨HO.out,rfl,set2 rfl px.out _ _,λk hk h1 h2=>?_,(bU.out.setCell (p:=⟨Qb,0,none⟩) M2 _).setCell (p:=⟨Qb,1,none⟩) M2 _⟩;rw[<-tG.out.block k hk (λe=>h1 (by cases e;rfl))];simp only[World.setCell,Array.getElem?_modify];rw[Qc (λe=>h2 e.symm),Qc (λe=>h2 e.symm)]
theorem XD(An Kn F B:Nat)(kv adv:Value)(an:ByteArray)(aty al t d:Int)(ea ek:List Value)(x k:Np.Signed)(w:World)
 (hF:AU F kv an aty al adv t d w) (jV:w.heap[An]?=some (.cells ea.toArray 44 (0,0))) (wF:w.heap[Kn]?=some (.cells ek.toArray 44 (0,0))) (hB:B<=w.heap.size) (hR:bL w B) (h1:aB w B ea x) (h2:aB w B ek k) :
 Calls prog 124 #[.pointer (some ⟨An,0,none⟩),.pointer (some ⟨Kn,0,none⟩),.pointer (some ⟨F,0,none⟩)] w (aUQ w.heap.size w (.int .i64 (vq (Np.rx x.set k t d)))):=by
 have H1:=jq (bf _ _ _ _ _ h1 hB);have H2:=jq (bf _ _ _ _ _ h2 hB);have HR:=jq (hR.more hB);obtain⟨s,dA,dn,dc,gA,gn,gc,rfl,hs,au,_,_,hd,hg⟩:=gZ H1.out;obtain⟨s2,dA2,dn2,dc2,gA2,gn2,gc2,rfl,eN,i8,_,_,fS,ew⟩:=gZ H2.out;have tP:=jq (show bO w w.heap.size [.string s,.int .i64 x.set.type,.int .i64 x.set.life,.slice dA dn dc] x.set from ⟨s,_,hs,au,hd,rfl⟩);have y0:=ae [_,_,_,_,_] jV 0 _ rfl;have y1:=ae [_,_,_,_,_] jV 1 _ rfl;have y2:=ae [_,_,_,_,_] jV 2 _ rfl;have y3:=ae [_,_,_,_,_] jV 3 _ rfl;have k0:=ae [_,_,_,_,_] wF 0 _ rfl;have k1:=ae [_,_,_,_,_] wF 1 _ rfl;have k2:=ae [_,_,_,_,_] wF 2 _ rfl;have k3:=ae [_,_,_,_,_] wF 3 _ rfl;have k4:=ae [_,_,_,_,_] wF 4 _ rfl;have f5:=hF 5 _ rfl;have f6:=hF 6 _ rfl;obtain⟨r,hr⟩:=aRZ (Np.rx x.set k t d);rw[hr];have mJ:=jq hr;clear hF jV wF hR h1 h2 hs eN hd fS hg ew hr;go_enter func124,ntmps124;go_wp2_with fail;refine (alY x.set _ k _ t d w HR.out tP.out H2.out).mono ?_;rintro e w2 ⟨rfl,hb⟩;rw[mJ.out];have HB:=jq hb;clear hb y0 y1 y2 y3 k0 k1 k2 k3 k4 f5 f6;go_wp2_with fail;refine (QC r w2).mono ?_;rintro e w3 ⟨rfl,rfl⟩;go_wp2_with fail;go_ret;exact⟨rfl,HB.out⟩
end
section
open Go.RowKit
theorem Xz(Wy I F An Kb B b o n c i:Nat)(nm:ByteArray)(ab:List UInt8)(kv adv ksv:Value)(known:List Np.Signed)(an:ByteArray)(aty al t d:Int)(ks:List Np.Key)(ea:List Value)(A0:Np.Signed)(w:World)(hi:i<n)(hn:n<=1000)
 (h0:w.cell? ⟨Wy,0,none⟩=some (.slice (some ⟨b,o,none⟩) n c)) (h1:w.cell? ⟨I,0,none⟩=some (.int .i64 i)) (h2:w.cell? ⟨b,o+i,none⟩=some (.string nm)) (h3:nm.data.toList≠[46]->i+1<n/\∃ s:ByteArray,s.data.toList=ab/\w.cell? ⟨b,o+(i+1),none⟩=some (.string s))
 (hF:AU F kv an aty al adv t d w) (hK:w.cell? ⟨Kb,0,none⟩=some ksv) (zH:ea.length=5) (jV:w.heap[An]?=some (.cells ea.toArray 44 (0,0))) (hne:Wy≠An/\I≠An/\F≠An/\Kb≠An/\b≠An) (hB:B<=An) (hR:bL w B) (hk:SlR aB 5 w B kv known) (ha:∃ A n c,adv = .slice A n c) (jU:aB w B ea A0)
 (q8:∀ w',w.grownBy w' (some An)->SlR iS 2 w' w'.heap.size ksv ks) :
 Calls prog 121 #[.pointer (some ⟨Wy,0,none⟩),.pointer (some ⟨I,0,none⟩),.pointer (some ⟨F,0,none⟩),.pointer (some ⟨An,0,none⟩),.pointer (some ⟨Kb,0,none⟩)] w
  (I9 B An (if nm.data.toList = [46] then A0 else (Np.cJ known nm.data.toList 6).getD Np.iG) (decide (nm.data.toList = [46])||Np.e8 ((Np.cJ known nm.data.toList 6).getD Np.iG) ab ks t d) w):=by
 by_cases hr:nm.data.toList = [46]
 ·rw[QbQ hr,uQ hr];exact (XB Wy I F An Kb b o n c i nm w hi hn h0 h1 h2 hr).mono λe w' ⟨he,hw⟩=>⟨ea,he,by rw[<-hw];exact jU,by rw[<-hw];exact jV,by rw[<-hw];exact MP _ _⟩
 ·rw[Qc hr,tQ hr,Bool.false_or];obtain⟨h4,s,rfl,h5⟩:=h3 hr;exact XA Wy I F An Kb B b o n c i nm s kv adv ksv known an aty al t d ks ea w h4 hn h0 h1 h2 h5 hr hF hK zH jV hne hB hR hk ha q8
def tY(v:Value)(ks:List Np.Key)(X:Nat->Prop)(w:World):Prop:=(v = .slice none 0 0/\ks = [])\/∃ (R n:Nat) (ds:List Np.Datum),v = .slice (some ⟨R,0,none⟩) n n/\¬ X R/\R<w.heap.size/\jO R n n ds w/\ds.length=n/\n<=1000/\ks=ds.map λd=>⟨d.n,d.m⟩
theorem jO.same{R n k:Nat}{ds:List Np.Datum}{w w':World}(h:jO R n k ds w)(hb:w'.heap[R]?=w.heap[R]?):jO R n k ds w':=by
 obtain⟨xs,h1,h2⟩:=h;refine⟨xs,λj u hj=>?_,h2⟩;obtain⟨h3,h4⟩:=h1 j u hj;exact⟨(iQ (a:=⟨R,j,none⟩) hb).trans h3,by rw[<-h4];unfold World.frozen?;dsimp only;rw[hb]⟩
theorem tY.slr{v:Value}{ks:List Np.Key}{X:Nat->Prop}{w:World}(h:tY v ks X w):SlR iS 2 w w.heap.size v ks:=by
 rcases h with ⟨rfl,rfl⟩ | ⟨R,n,ds,rfl,_,hR,hk,hl,hn,rfl⟩
 ·exact g8 _ _
 ·exact hk.slr hl hR hn
theorem tY.keep{v:Value}{ks:List Np.Key}{X Y:Nat->Prop}{w w':World}(h:tY v ks X w)(hz:w.heap.size<=w'.heap.size)(hs:∀ k,k<w.heap.size->¬ X k->w'.heap[k]?=w.heap[k]?)(hY:∀ k,k<w.heap.size->Y k->X k):tY v ks Y w':=by
 rcases h with ⟨rfl,rfl⟩ | ⟨R,n,ds,rfl,hX,hR,hk,hl,hn,rfl⟩
 ·exact .inl ⟨rfl,rfl⟩
 ·exact .inr ⟨R,n,ds,rfl,λh=>hX (hY R hR h),by omega,hk.same (hs R hR hX),hl,hn,rfl⟩
def qp(W0:Nat)(fv:List Value)(wv:Value)(w:World):Prop:=
 w.heap[W0]?=some (.cells fv.toArray 101 (0,0))/\w.heap[W0+1]?=some (.cells [wv].toArray 102 (0,0))/\w.heap[W0+2]?=some (.cells [Value.string ⟨#[]⟩,.int .i64 0].toArray 27 (0,0))/\w.heap[W0+4]?=some (.cells [Value.string ⟨#[]⟩,.int .i64 0].toArray 27 (0,0))
theorem qp.keep{W0:Nat}{fv:List Value}{wv:Value}{w w':World}(h:qp W0 fv wv w)(hs:∀ k,W0<=k->k<W0+5->k≠W0+3->w'.heap[k]?=w.heap[k]?):qp W0 fv wv w':=
 ⟨(hs _ (by omega) (by omega) (by omega)).trans h.1,(hs _ (by omega) (by omega) (by omega)).trans h.2.1,(hs _ (by omega) (by omega) (by omega)).trans h.2.2.1,(hs _ (by omega) (by omega) (by omega)).trans h.2.2.2⟩
def Ec(res:List Np.Key×Np.mK×Int)(w:World)(e:Ending)(w':World):Prop:=
 ∃ (v:Value) (qn:ByteArray),e = .returned (.tuple #[v,.agg #[.string qn,.int .i64 res.2.1.2],.int .i64 res.2.2])/\qn.data.toList=res.2.1.1/\qn.size<=140737488355328/\tY v res.1 (λk=>k<w.heap.size) w'/\Below w.heap.size w w'
theorem aBQ(w:World)(o1 o2 o3 o4 o5 o6:Obj):((((((w.alloc o1).alloc o2).alloc o3).alloc o4).alloc o5).alloc o6).heap[w.heap.size]?=some o1/\((((((w.alloc o1).alloc o2).alloc o3).alloc o4).alloc o5).alloc o6).heap[w.heap.size+1]?=some o2/\((((((w.alloc o1).alloc o2).alloc o3).alloc o4).alloc o5).alloc o6).heap[w.heap.size+2]?=some o3/\((((((w.alloc o1).alloc o2).alloc o3).alloc o4).alloc o5).alloc o6).heap[w.heap.size+3]?=some o4/\((((((w.alloc o1).alloc o2).alloc o3).alloc o4).alloc o5).alloc o6).heap[w.heap.size+4]?=some o5/\((((((w.alloc o1).alloc o2).alloc o3).alloc o4).alloc o5).alloc o6).heap[w.heap.size+5]?=some o6:=by
 have e:((((((w.alloc o1).alloc o2).alloc o3).alloc o4).alloc o5).alloc o6).heap=(((((w.heap.push o1).push o2).push o3).push o4).push o5).push o6:=rfl;rw[e];refine⟨?_,?_,?_,?_,?_,?_⟩<;>simp only[Array.getElem?_push,Array.size_push]<;>(repeat (first | rw[Qc (by omega)] | rw[QbQ (by omega)]))<;>simp
theorem IN{w:World}{B:Nat}{A:Option Addr}{n c:Nat}{xs:List (List UInt8)}(h:SlR RTx 1 w B (.slice A n c) xs){k:Nat}{x:List UInt8}(hx:xs[k]?=some x):∃ (b o:Nat) (s:ByteArray),A=some ⟨b,o,none⟩/\b<B/\s.data.toList=x/\s.size<=140737488355328/\w.cell? ⟨b,o+k,none⟩=some (.string s):=by
 obtain⟨A',c',hv,hc,_,he⟩:=h;simp only[Value.slice.injEq] at hv;obtain⟨rfl,_,_⟩:=hv;obtain⟨b,o,e,rfl,hb,_,hce,s,h1,h2,rfl⟩:=he k x hx;exact⟨b,o,s,rfl,hb,h1,h2,by have:=hce 0 _ rfl;simpa using this⟩
theorem Np.XE{known:List Np.Signed}{anchor:Np.DSet}{t d:Int}{n:List UInt8}{r:List (List UInt8)}{a:List UInt8}{ks:List Np.Key}(h:(decide (n = [46])||Np.e8 ((Np.cJ known n 6).getD Np.iG) a ks t d)=false):Np.fp known anchor t d (n::r) a ks=([],([],0),31):=by
 simp only[Bool.or_eq_false_iff,decide_eq_false_iff_not] at h;rw[Np.fp,QbQ h]
theorem Np.FH{n:List UInt8}{b:Bool}(h:(decide (n = [46])||b)=true):¬ (n≠[46]/\b=false):=by
 rintro⟨h1,h2⟩;rw[h2,tQ h1] at h
 cases h
theorem Np.XG{known:List Np.Signed}{anchor:Np.DSet}{t d:Int}{n:List UInt8}{r:List (List UInt8)}{a:List UInt8}{ks:List Np.Key}(h:(decide (n = [46])||Np.e8 ((Np.cJ known n 6).getD Np.iG) a ks t d)=true)(h2:Np.cJ known n 7=none):Np.fp known anchor t d (n::r) a ks=([],(n,7),4):=by
 rw[Np.fp,Qc (Np.FH h),h2]
theorem Np.MI{anchor:Np.DSet}{n:List UInt8}{X:Np.Signed} : (if n = [46] then (⟨anchor,[]⟩:Np.Signed) else X).set=if n = [46] then anchor else X.set:=by split<;>rfl
theorem Np.XF{known:List Np.Signed}{anchor:Np.DSet}{t d:Int}{n:List UInt8}{r:List (List UInt8)}{a:List UInt8}{ks:List Np.Key}{k:Np.Signed}(h:(decide (n = [46])||Np.e8 ((Np.cJ known n 6).getD Np.iG) a ks t d)=true)(h2:Np.cJ known n 7=some k)(h3:Np.rx (if n = [46] then (⟨anchor,[]⟩:Np.Signed) else (Np.cJ known n 6).getD Np.iG).set k t d=false):Np.fp known anchor t d (n::r) a ks=([],([],0),31):=by
 rw[Np.MI] at h3;rw[Np.fp,Qc (Np.FH h),h2];dsimp only;rw[h3];rfl
theorem Np.XH{known:List Np.Signed}{anchor:Np.DSet}{t d:Int}{n:List UInt8}{r:List (List UInt8)}{a:List UInt8}{ks:List Np.Key}{k:Np.Signed}(h:(decide (n = [46])||Np.e8 ((Np.cJ known n 6).getD Np.iG) a ks t d)=true)(h2:Np.cJ known n 7=some k)(h3:Np.rx (if n = [46] then (⟨anchor,[]⟩:Np.Signed) else (Np.cJ known n 6).getD Np.iG).set k t d=true):Np.fp known anchor t d (n::r) a ks=Np.fp known anchor t d r n (Np.i9 k.set):=by
 rw[Np.MI] at h3;rw[Np.fp,Qc (Np.FH h),h2];dsimp only;rw[h3];rfl
theorem aFQ(w:World)(o1 o2 o3:Obj):(((w.alloc o1).alloc o2).alloc o3).heap[w.heap.size]?=some o1/\(((w.alloc o1).alloc o2).alloc o3).heap[w.heap.size+1]?=some o2/\(((w.alloc o1).alloc o2).alloc o3).heap[w.heap.size+1+1]?=some o3/\(((w.alloc o1).alloc o2).alloc o3).heap.size=w.heap.size+3/\Below w.heap.size w (((w.alloc o1).alloc o2).alloc o3):=by
 have e:(((w.alloc o1).alloc o2).alloc o3).heap=((w.heap.push o1).push o2).push o3:=rfl;refine⟨?_,?_,?_,by simp,((((vQ _ w).alloc (bQ _) _).alloc (by simp) _).alloc (by simp;omega) _)⟩<;>rw[e]<;>simp only[Array.getElem?_push,Array.size_push]<;>(repeat (first | rw[Qc (by omega)] | rw[QbQ (by omega)]))<;>simp
def MH(pv:Value)(w:World):Nat:=match pv with
 | .pointer (some p)=>match w.cell? p with
   | some (.int _ i)=>(i+1).toNat
   | _=>0
 | _=>0
def Ja(known:List Np.Signed)(anchor:Np.DSet)(t d:Int)(names:List (List UInt8))(fv:List Value)(wv:Value)(RES:List Np.Key×Np.mK×Int)(w:World)(ev pv:Value)(wr:World):Prop:=
 ∃ (rem I:Nat) (kv:Value) (ks:List Np.Key),ev = .int .i64 0/\pv = .pointer (some ⟨I,0,none⟩)/\rem<=names.length/\w.heap.size+5<=I/\I<wr.heap.size/\Hid (wr.heap[I]?=some (.cells [Value.int .i64 ((rem:Int) - 1)].toArray 3 (0,0)))/\Hid (qp w.heap.size fv wv wr)/\
   Hid (wr.heap[w.heap.size+3]?=some (.cells [kv].toArray 46 (0,0)))/\Hid (tY kv ks (λk=>k<w.heap.size+5\/k=I) wr)/\Hid (Below w.heap.size w wr)/\Hid (RES=Np.fp known anchor t d (names.take rem).reverse ((names[rem]?).getD []) ks)
theorem XJ(kv adv:Value)(known:List Np.Signed)(an:ByteArray)(anchor:Np.DSet)(t d:Int)(wv:Value)(names:List (List UInt8))(w:World)(hR:bL w w.heap.size)(hk:SlR aB 5 w w.heap.size kv known)(kW:∀ x∈known,Np.bo x.set=true)(han:an.data.toList=anchor.name)(mj:an.size<=140737488355328)(fP:SlR bS 3 w w.heap.size adv anchor.data)
 (hw:SlR RTx 1 w w.heap.size wv names) (hn:names.length<=1000) (zR:∀ i s,names[i]?=some s->i+1=names.length->s = [46]) :
 Calls prog 54 #[wm kv an anchor.type anchor.life adv t d,wv] w (Ec (Np.fp known anchor t d names.reverse [] []) w):=by
 have HK:=jq hk;have qs:=jq fP;have HW:=jq hw;have ED:=jq zR;have lR:=jq kW;have dK:=jq hR;have fJ:=jq han;obtain⟨A,N,C,rfl,_,_,_⟩:=aM hk;obtain⟨aA,aN,aC,rfl,_,_,_⟩:=aM fP;obtain⟨wA,wN,wC,rfl,mx,_,_⟩:=aM hw;have E7:=jq mx;have O6:wN<=1000:=by omega
 obtain⟨RES,co⟩:=aRZ (Np.fp known anchor t d names.reverse [] []);rw[co];have aO:Hid (RES=Np.fp known anchor t d (names.take wN).reverse ((names[wN]?).getD []) []):=jq (by rw[<-co,kQ (by omega),List.getElem?_eq_none (by omega)];rfl);unfold wm;have Km:Hid (∀ w6,((((((w.alloc (.cells [Value.slice A N C,.string an,.int .i64 anchor.type,.int .i64 anchor.life,.slice aA aN aC,.int .i64 t,.int .i64 d].toArray 101)).alloc (.cells [Value.slice wA wN wC].toArray 102)).alloc (.cells [Value.string ⟨#[]⟩,.int .i64 0].toArray 27)).alloc (.cells [Value.slice none 0 0].toArray 46)).alloc (.cells [Value.string ⟨#[]⟩,.int .i64 0].toArray 27)).alloc (.cells [Value.int .i64 ((wN:Int) - 1)].toArray 3))=w6->Ja known anchor t d names [Value.slice A N C,.string an,.int .i64 anchor.type,.int .i64 anchor.life,.slice aA aN aC,.int .i64 t,.int .i64 d] (.slice wA wN wC) RES w (.int .i64 0) (.pointer (some ⟨w.heap.size+5,0,none⟩)) w6):=jq (by
  rintro w6 rfl;obtain⟨x1,x2,x3,x4,x5,x6⟩:=aBQ w _ _ _ _ _ _;refine⟨wN,w.heap.size+5,.slice none 0 0,[],rfl,rfl,by omega,bQ _,by simp,jq x6,jq ⟨x1,x2,x3,x5⟩,jq x4,jq (.inl ⟨rfl,rfl⟩),jq ?_,aO⟩;exact (((((((vQ _ w).alloc (bQ _) _).alloc (by simp) _).alloc (by simp;omega) _).alloc (by simp;omega) _).alloc (by simp;omega) _).alloc (by simp;omega) _))
 clear hk fP hw zR kW hR han mx co aO;go_enter func54,ntmps54;go_wp2_with fail;go_step3;go_wp2_with fail;go_step3;go_wp2_with fail;go_loopw [9,10] (λev pv wr=>Ja known anchor t d names [Value.slice A N C,.string an,.int .i64 anchor.type,.int .i64 anchor.life,.slice aA aN aC,.int .i64 t,.int .i64 d] (.slice wA wN wC) RES w ev pv wr) (λ_ pv wr=>MH pv wr)
 case atStart=>exact Km.out _ rfl
 case round=>
  clear Km;obtain⟨rem,I,kv,ks,rfl,rfl,jx,hI5,Cw,HI,vI,J1,yg,HB,tO⟩:=hrel;obtain⟨ws,rfl⟩:=aRX wr;have i0:=ae [_] HI.out 0 _ rfl
  cases rem with
  | zero=>
   have i1:ws.cell? ⟨I,0,none⟩=some (.int .i64 (-1)):=by simpa using i0
   have hq:=vI.out.2.2.1;have q0:=ae [_,_] hq 0 _ rfl;have q1:=ae [_,_] hq 1 _ rfl;have fq:∀ i,ws.frozen? ⟨w.heap.size+2,i,none⟩=false:=λi=>by simp[World.frozen?,hq]
   have kb:=ae [_] J1.out 0 _ rfl;have HE:Hid (RES=(ks,([],0),0)):=jq (by rw[tO.out];rfl);have eH:=yg.out.slr;obtain⟨zA,zN,zC,rfl,_,_,_⟩:=aM eH;clear hq i0 eH;go_wp2_with fail;refine bodyPost_ret (v:=.tuple #[.slice zA zN zC,.agg #[.string ⟨#[]⟩,.int .i64 0],.int .i64 0]) (by simp[results,results54,go_sem,q0,q1]) rfl ?_
   suffices H:∀ W',(∀ g,g<ws.heap.size->g≠w.heap.size+2->W'.heap[g]?=ws.heap[g]?)->ws.heap.size<=W'.heap.size->Below w.heap.size w W'->Ec RES w (.returned (.tuple #[.slice zA zN zC,.agg #[.string ⟨#[]⟩,.int .i64 0],.int .i64 0])) W' by
    refine H _ (λg hg hne=>?_) (by simp[World.setCell]) ((HB.out.blSe (p:=⟨w.heap.size+2,0,none⟩) _).blSe (p:=⟨w.heap.size+2,1,none⟩) _);simp only[World.setCell,Array.getElem?_modify];rw[Qc (λe=>hne (by omega)),Qc (λe=>hne (by omega))]
   intro W' h1 h2 h3;refine⟨_,⟨#[]⟩,by rw[HE.out],by rw[HE.out],by decide,?_,h3⟩;rw[HE.out];exact yg.out.keep (Y:=λk=>k<w.heap.size) h2 (λk hk hx=>h1 k hk (λe=>hx (.inl (by omega)))) (λ_ _ h=>.inl (by omega))
  | succ k=>
   have i1:ws.cell? ⟨I,0,none⟩=some (.int .i64 k):=by rw[i0];congr 2;omega
   have sY:k<names.length:=by omega
   obtain⟨nmL,gt⟩:∃ x,names[k]?=some x:=⟨_,aQ sY⟩;obtain⟨b,o,nm,rfl,hb,pT,Zr,c0⟩:=IN (HW.out.keep rB HB.out) gt;have f0:=ae [_,_,_,_,_,_,_] vI.out.1 1 _ rfl;have f1:=ae [_,_,_,_,_,_,_] vI.out.1 2 _ rfl;have f2:=ae [_,_,_,_,_,_,_] vI.out.1 3 _ rfl;have f3:=ae [_,_,_,_,_,_,_] vI.out.1 4 _ rfl;have l0:w.heap.size<ws.heap.size:=by omega
   have dS:(0:Int)<=(k:Int):=by omega
   clear i0;go_wp2_with fail;obtain⟨wa,xr⟩:=aRZ (((ws.alloc (.cells #[.string an,.int .i64 anchor.type,.int .i64 anchor.life,.slice aA aN aC,.slice none 0 0] 44)).alloc (.cells #[.string ⟨#[]⟩,.int .i64 0,.int .i64 0,.slice none 0 0,.slice none 0 0] 44)).alloc (.cells #[.func (.func 121) #[] #[.pointer (some ⟨w.heap.size+1,0,none⟩),.pointer (some ⟨I,0,none⟩),.pointer (some ⟨w.heap.size,0,none⟩),.pointer (some ⟨ws.heap.size,0,none⟩),.pointer (some ⟨w.heap.size+1+1+1,0,none⟩)],.func (.func 123) #[] #[.pointer (some ⟨w.heap.size,0,none⟩),.pointer (some ⟨w.heap.size+1,0,none⟩),.pointer (some ⟨I,0,none⟩),.pointer (some ⟨ws.heap.size+1,0,none⟩),.pointer (some ⟨w.heap.size+1+1+1+1,0,none⟩)],.func (.func 124) #[] #[.pointer (some ⟨ws.heap.size,0,none⟩),.pointer (some ⟨ws.heap.size+1,0,none⟩),.pointer (some ⟨w.heap.size,0,none⟩)]] 157));rw[xr];obtain⟨x1,x2,x3,xz,xb⟩:=aFQ ws (.cells #[.string an,.int .i64 anchor.type,.int .i64 anchor.life,.slice aA aN aC,.slice none 0 0] 44) (.cells #[.string ⟨#[]⟩,.int .i64 0,.int .i64 0,.slice none 0 0,.slice none 0 0] 44) (.cells #[.func (.func 121) #[] #[.pointer (some ⟨w.heap.size+1,0,none⟩),.pointer (some ⟨I,0,none⟩),.pointer (some ⟨w.heap.size,0,none⟩),.pointer (some ⟨ws.heap.size,0,none⟩),.pointer (some ⟨w.heap.size+1+1+1,0,none⟩)],.func (.func 123) #[] #[.pointer (some ⟨w.heap.size,0,none⟩),.pointer (some ⟨w.heap.size+1,0,none⟩),.pointer (some ⟨I,0,none⟩),.pointer (some ⟨ws.heap.size+1,0,none⟩),.pointer (some ⟨w.heap.size+1+1+1+1,0,none⟩)],.func (.func 124) #[] #[.pointer (some ⟨ws.heap.size,0,none⟩),.pointer (some ⟨ws.heap.size+1,0,none⟩),.pointer (some ⟨w.heap.size,0,none⟩)]] 157);rw[xr] at x1 x2 x3 xz xb;have qH:=jq (HB.out.trans (xb.mono HB.out.size));have Ez:Hid (qp w.heap.size [Value.slice A N C,.string an,.int .i64 anchor.type,.int .i64 anchor.life,.slice aA aN aC,.int .i64 t,.int .i64 d] (.slice (some ⟨b,o,none⟩) wN wC) wa):=jq (vI.out.keep (λk _ h _=>xb.block k (by omega)));have J2:=jq ((xb.block (w.heap.size+3) (by omega)).trans J1.out);have Nd:=(xb.block I Cw).trans HI.out;have Sx:=jq Nd;have g0:=ae [_,_,_] x3 0 _ rfl;have g1:=ae [_,_,_] x3 1 _ rfl;have g2:=ae [_,_,_] x3 2 _ rfl;have E9:=jq x1;have Vn:=jq x2;have BR:=jq x3;have tW:=jq xb;have hYz:ws.heap.size+1+1<wa.heap.size:=by omega
   have ca:wa.cell? ⟨b,o+k,none⟩=some (.string nm):=aQY xb c0;have cI:wa.cell? ⟨I,0,none⟩=some (.int .i64 k):=(xb.cell (p:=⟨I,0,none⟩) Cw).trans i1;have e1:=W8;have e2:=W9;have e3:=Xa;obtain⟨aL,Ge⟩:=aRZ ((names[k+1]?).getD []);have iH:=jq Ge;have fe:Hid ((names.take (k+1)).reverse=nm.data.toList::(names.take k).reverse):=jq (by
    rw[fQ sY,List.reverse_append];rw[aQ sY] at gt;simp only[Option.some.injEq] at gt;rw[pT,<-gt];rfl)
   have rW:Hid (RES=Np.fp known anchor t d (nm.data.toList::(names.take k).reverse) aL ks):=jq (by rw[tO.out,fe.out,Ge]);have tH:Hid (names[k]?=some nm.data.toList):=jq (by rw[gt,pT]);clear xr x1 x2 x3 xz xb Nd c0 i1 f0 f1 f2 f3 Ge gt tO pT;refine wp_loop_rounds 4 ?_;rw[rounds_succ];go_wp2_with fail;refine (Xz (w.heap.size+1) I w.heap.size ws.heap.size (w.heap.size+3) w.heap.size b o wN wC k nm aL (.slice A N C) (.slice aA aN aC) kv known an anchor.type anchor.life t d ks [.string an,.int .i64 anchor.type,.int .i64 anchor.life,.slice aA aN aC,.slice none 0 0] ⟨anchor,[]⟩ wa (by have:=E7.out;omega) O6 (ae [_] Ez.out.2.1 0 _ rfl) cI ca ?_ (λj u hj=>ae _ Ez.out.1 j u hj) (ae [_] J2.out 0 _ rfl) rfl E9.out (by refine⟨?_,?_,?_,?_,?_⟩<;>omega) (by omega) (dK.out.keep qH.out) (HK.out.keep az qH.out) ⟨_,_,_,rfl⟩ ⟨an,_,_,fJ.out,mj,qs.out.keep br qH.out,g8 _ _,rfl⟩ ?_).mono ?_
   ·intro hr;have dp:k+1<names.length:=Decidable.byContradiction λh=>hr (ED.out k _ tH.out (by omega));refine⟨by have:=E7.out;omega,?_⟩;obtain⟨x,hx⟩:∃ x,names[k+1]?=some x:=⟨_,aQ dp⟩;obtain⟨b',o',s,NU,_,hs,_,hc⟩:=IN (HW.out.keep rB qH.out) hx;simp only[Option.some.injEq,Addr.mk.injEq,and_true] at NU;obtain⟨rfl,rfl⟩:=NU;exact⟨s,by rw[hs,<-iH.out,hx];rfl,hc⟩
   ·intro w' hg;refine (yg.out.keep (Y:=λ_=>False) (yQ tW.out.size hg.size) (λq hq _=>?_) (λ_ _ h=>h.elim)).slr;exact (hg.block q (lqQ hq tW.out.size) (λe=>by cases e;omega)).trans (tW.out.block q hq)
   rintro e w2 ⟨ea2,rfl,OO,NG,ew⟩;have eN:=ew.size;have G3:∀ q,q<ws.heap.size->w2.heap[q]?=wa.heap[q]?:=λq hq=>ew.block q (by omega) (λe=>by cases e;omega);have jL:Hid (qp w.heap.size [Value.slice A N C,.string an,.int .i64 anchor.type,.int .i64 anchor.life,.slice aA aN aC,.int .i64 t,.int .i64 d] (.slice (some ⟨b,o,none⟩) wN wC) w2):=jq (Ez.out.keep (λq _ h _=>G3 q (by omega)));have dL:Hid (Below w.heap.size w w2):=jq (qH.out.trans (wn ew (by omega) qH.out.size));obtain⟨r1,cG⟩:=aRZ (decide (nm.data.toList = [46])||Np.e8 ((Np.cJ known nm.data.toList 6).getD Np.iG) aL ks t d);rw[cG];have iN:=jq cG;have TB:=jq OO;have Rj:=jq NG;have gL:=jq ew;have jM:=jq G3;clear cG OO NG ew G3
   cases r1 with
   | false=>
    have HE:Hid (RES=([],([],0),31)):=jq (by rw[rW.out,Np.XE iN.out]);clear rW;rw[show vq false=31 from rfl];have ms:=jL.out.2.2.1;have q0:=ae [_,_] ms 0 _ rfl;have q1:=ae [_,_] ms 1 _ rfl;have fq:∀ i,w2.frozen? ⟨w.heap.size+2,i,none⟩=false:=λi=>by simp[World.frozen?,ms]
    have oI:=jL.out.2.2.2;have p0:=ae [_,_] oI 0 _ rfl;have p1:=ae [_,_] oI 1 _ rfl;have uI:w.heap.size+2<w2.heap.size:=by have:=dL.out.size;omega
    have Da:w.heap.size+4<w2.heap.size:=by have:=dL.out.size;omega
    clear ms oI;go_wp2_with fail;go_region
    all_goals
     go_wp2_with fail;refine bodyPost_ret (v:=.tuple #[.slice none 0 0,.agg #[.string ⟨#[]⟩,.int .i64 0],.int .i64 31]) (by simp[results,results54,go_sem,q0,q1]) rfl ?_;exact⟨_,⟨#[]⟩,by rw[HE.out],by rw[HE.out],by decide,by rw[HE.out];exact .inl ⟨rfl,rfl⟩,((Below.drew dL.out).blSe (p:=⟨w.heap.size+2,0,none⟩) _).blSe (p:=⟨w.heap.size+2,1,none⟩) _⟩
   | true=>
    rw[show vq true=0 from rfl];have p9:w2.heap[ws.heap.size+1+1]?=some (.cells #[.func (.func 121) #[] #[.pointer (some ⟨w.heap.size+1,0,none⟩),.pointer (some ⟨I,0,none⟩),.pointer (some ⟨w.heap.size,0,none⟩),.pointer (some ⟨ws.heap.size,0,none⟩),.pointer (some ⟨w.heap.size+1+1+1,0,none⟩)],.func (.func 123) #[] #[.pointer (some ⟨w.heap.size,0,none⟩),.pointer (some ⟨w.heap.size+1,0,none⟩),.pointer (some ⟨I,0,none⟩),.pointer (some ⟨ws.heap.size+1,0,none⟩),.pointer (some ⟨w.heap.size+1+1+1+1,0,none⟩)],.func (.func 124) #[] #[.pointer (some ⟨ws.heap.size,0,none⟩),.pointer (some ⟨ws.heap.size+1,0,none⟩),.pointer (some ⟨w.heap.size,0,none⟩)]] 157):=(gL.out.block _ (by omega) (λe=>by simp at e;omega)).trans BR.out;have g0':=ae [_,_,_] p9 0 _ rfl;have g1':=ae [_,_,_] p9 1 _ rfl;have g2':=ae [_,_,_] p9 2 _ rfl;have Vs:=jq p9;clear p9 g0 g1 g2;go_wp2_with fail;rw[rounds_succ];go_wp2_with fail;refine (XC (w.heap.size+1) I w.heap.size (ws.heap.size+1) (w.heap.size+4) w.heap.size b o wN wC k nm (.slice A N C) (.slice aA aN aC) known an anchor.type anchor.life t d [.string ⟨#[]⟩,.int .i64 0,.int .i64 0,.slice none 0 0,.slice none 0 0] [.string ⟨#[]⟩,.int .i64 0] w2 (by have:=E7.out;omega) O6 (ae [_] jL.out.2.1 0 _ rfl) ?_ ?_ (λj u hj=>ae _ jL.out.1 j u hj) rfl jL.out.2.2.2 rfl ((gL.out.block (ws.heap.size+1) (by omega) (λe=>by simp at e)).trans Vn.out) (by refine⟨?_,?_,?_,?_,?_⟩<;>omega) (by omega) (by omega) (HK.out.keep az dL.out) ⟨_,_,_,rfl⟩).mono ?_
    ·exact (iQ (a:=⟨I,0,none⟩) (jM.out I Cw)).trans cI
    ·exact (iQ (a:=⟨b,o+k,none⟩) (jM.out b (by omega))).trans ca
    rintro e w3 (⟨x,ek,sV,rfl,OP,ox,gp⟩ | ⟨sV,rfl,fW,s7,Gk⟩)
    case' inr=>
     have bu:=Gk.size;have HE:Hid (RES=([],(nm.data.toList,7),4)):=jq (by rw[rW.out,Np.XG iN.out sV]);have dM:Hid (Below w.heap.size w w3):=jq (dL.out.trans Gk);have TA:=jq ((s7 (w.heap.size+2) (by omega) (by omega) (by omega)).trans jL.out.2.2.1);have iM:=jq fW;clear rW fW s7 Gk g0' g1' g2';have ms:=TA.out;have q0:=ae [_,_] ms 0 _ rfl;have q1:=ae [_,_] ms 1 _ rfl;have fq:∀ i,w3.frozen? ⟨w.heap.size+2,i,none⟩=false:=λi=>by simp[World.frozen?,ms]
     have oI:=iM.out;have p0:=ae [_,_] oI 0 _ rfl;have p1:=ae [_,_] oI 1 _ rfl;have uI:w.heap.size+2<w3.heap.size:=by have:=dM.out.size;omega
     have Da:w.heap.size+4<w3.heap.size:=by have:=dM.out.size;omega
     clear ms oI;go_wp2_with fail;go_region
     all_goals
      go_wp2_with fail;refine bodyPost_ret (v:=.tuple #[.slice none 0 0,.agg #[.string nm,.int .i64 7],.int .i64 4]) (by simp[results,results54,go_sem,q0,q1]) rfl ?_;exact⟨_,nm,by rw[HE.out],by rw[HE.out],Zr,by rw[HE.out];exact .inl ⟨rfl,rfl⟩,((Below.drew dM.out).blSe (p:=⟨w.heap.size+2,0,none⟩) _).blSe (p:=⟨w.heap.size+2,1,none⟩) _⟩
    have bu:=gp.size;have s7:∀ q,q<w2.heap.size->q≠ws.heap.size+1->w3.heap[q]?=w2.heap[q]?:=λq hq hne=>gp.block q hq (λe=>hne (by cases e;rfl));have JY:Hid (qp w.heap.size [Value.slice A N C,.string an,.int .i64 anchor.type,.int .i64 anchor.life,.slice aA aN aC,.int .i64 t,.int .i64 d] (.slice (some ⟨b,o,none⟩) wN wC) w3):=jq (jL.out.keep (λq _ h _=>s7 q (by omega) (by omega)));have Gn:Below w.heap.size w2 w3:=wn gp (by omega) (by have:=dL.out.size;omega);have dM:Hid (Below w.heap.size w w3):=jq (dL.out.trans Gn);have TC:=jq (az _ _ _ _ _ TB.out Gn);have pj:=jq ((s7 ws.heap.size (by omega) (by omega)).trans Rj.out);have Au:=(s7 (ws.heap.size+1+1) (by omega) (by omega)).trans Vs.out;have g0:=ae [_,_,_] Au 0 _ rfl;have g1:=ae [_,_,_] Au 1 _ rfl;have g2:=ae [_,_,_] Au 2 _ rfl;have aSQ:=jq Au;have x9:=jq sV;have rV:=jq OP;have iL:=jq ox;have eo:=jq s7;clear Au sV OP ox s7 gp Gn g0' g1' g2';go_wp2_with fail;rw[rounds_succ];go_wp2_with fail;refine (XD ws.heap.size (ws.heap.size+1) w.heap.size w.heap.size (.slice A N C) (.slice aA aN aC) an anchor.type anchor.life t d ea2 ek _ x w3 (λj u hj=>ae _ JY.out.1 j u hj) pj.out iL.out dM.out.size (dK.out.keep dM.out) TC.out rV.out).mono ?_;rintro e w4 ⟨rfl,av⟩;have kf:=av.size;have Ey:Hid (qp w.heap.size [Value.slice A N C,.string an,.int .i64 anchor.type,.int .i64 anchor.life,.slice aA aN aC,.int .i64 t,.int .i64 d] (.slice (some ⟨b,o,none⟩) wN wC) w4):=jq (JY.out.keep (λq _ h _=>av.block q (by omega)));have lV:=jq (dM.out.trans (av.mono dM.out.size));obtain⟨r3,bN⟩:∃ r,Np.rx (if nm.data.toList = [46] then (⟨anchor,[]⟩:Np.Signed) else (Np.cJ known nm.data.toList 6).getD Np.iG).set x t d=r:=⟨_,rfl⟩;rw[bN];have gN:=jq bN;have aF:=jq av;clear bN av
    cases r3 with
    | false=>
     have HE:Hid (RES=([],([],0),31)):=jq (by rw[rW.out,Np.XF iN.out x9.out gN.out]);clear rW;rw[show vq false=31 from rfl];have ms:=Ey.out.2.2.1;have q0:=ae [_,_] ms 0 _ rfl;have q1:=ae [_,_] ms 1 _ rfl;have fq:∀ i,w4.frozen? ⟨w.heap.size+2,i,none⟩=false:=λi=>by simp[World.frozen?,ms]
     have oI:=Ey.out.2.2.2;have p0:=ae [_,_] oI 0 _ rfl;have p1:=ae [_,_] oI 1 _ rfl;have uI:w.heap.size+2<w4.heap.size:=by have:=lV.out.size;omega
     have Da:w.heap.size+4<w4.heap.size:=by have:=lV.out.size;omega
     clear ms oI;go_wp2_with fail;go_region
     all_goals
      go_wp2_with fail;refine bodyPost_ret (v:=.tuple #[.slice none 0 0,.agg #[.string ⟨#[]⟩,.int .i64 0],.int .i64 31]) (by simp[results,results54,go_sem,q0,q1]) rfl ?_;exact⟨_,⟨#[]⟩,by rw[HE.out],by rw[HE.out],by decide,by rw[HE.out];exact .inl ⟨rfl,rfl⟩,((Below.drew lV.out).blSe (p:=⟨w.heap.size+2,0,none⟩) _).blSe (p:=⟨w.heap.size+2,1,none⟩) _⟩
    | true=>
     rw[show vq true=0 from rfl];go_wp2_with fail;rw[rounds_succ];have TL:Hid (RES=Np.fp known anchor t d (names.take k).reverse nm.data.toList (Np.i9 x.set)):=jq (by rw[rW.out,Np.XH iN.out x9.out gN.out]);have eE:=(aF.out.block (ws.heap.size+1) (by omega)).trans iL.out;have hx8:x.set.data.length<=8:=(Np.vv (lR.out x (by have:=x9.out;unfold Np.cJ at this;exact List.mem_of_find?_eq_some this))).2.2.2.2.2.2.1;obtain⟨sk,kdA,kdn,kdc,kgA,kgn,kgc,rfl,s9,ZE,_,_,uH,_⟩:=gZ rV.out;have y0:=ae [_,_,_,_,_] eE 0 _ rfl;have y1:=ae [_,_,_,_,_] eE 1 _ rfl;have y2:=ae [_,_,_,_,_] eE 2 _ rfl;have y3:=ae [_,_,_,_,_] eE 3 _ rfl;have lO:Hid (bO w4 w4.heap.size [.string sk,.int .i64 x.set.type,.int .i64 x.set.life,.slice kdA kdn kdc] x.set):=jq ⟨sk,_,s9,ZE,(uH.keep br (aF.out.mono dM.out.size)).more bB lV.out.size,rfl⟩;have Sw:Hid (w4.heap[I]?=some (.cells [Value.int .i64 (((k+1:Nat):Int) - 1)].toArray 3 (0,0))):=jq ((aF.out.block I (by omega)).trans ((eo.out I (by omega) (by omega)).trans ((jM.out I Cw).trans Sx.out)));have SH:=jq ((aF.out.block (w.heap.size+3) (by omega)).trans ((eo.out (w.heap.size+3) (by omega) (by omega)).trans ((jM.out (w.heap.size+3) (by omega)).trans J2.out)));clear eE s9 uH rW;go_wp2_with fail;refine (Pz x.set (by omega) _ w4 lO.out).mono ?_;rintro e w5 ⟨R,m,rfl,hR1,Yn,hm,Ot,aI⟩;have xj:=aI.size;have aK:=jq aI;have By:=jq Ot;have HM:=jq hm;have C3:=(aI.block (w.heap.size+3) (by omega)).trans SH.out;have SI:=jq C3;have Ol:=(aI.block I (by omega)).trans Sw.out;have b0:=ae [_] C3 0 _ rfl;have fb:∀ i,w5.frozen? ⟨w.heap.size+3,i,none⟩=false:=λi=>by simp[World.frozen?,C3]
     have j0:w5.cell? ⟨I,0,none⟩=some (.int .i64 k):=by rw[ae [_] Ol 0 _ rfl];congr 2;omega
     have lI5:I<w5.heap.size:=by omega
     have aUK:I≠w.heap.size+3:=by omega
     have lK5:w.heap.size+3<w5.heap.size:=by omega
     clear C3 Ol aI Ot hm y0 y1 y2 y3;go_wp2_with fail;go_roundw
     case rel=>
      have G2:∀ g,g<w5.heap.size->g≠w.heap.size+3->((w5.setCell ⟨w.heap.size+1+1+1,0,none⟩ (.slice (some ⟨R,0,none⟩) m m)).alloc (.cells #[.int .i64 ((k:Int) - 1)] 3)).heap[g]?=w5.heap[g]?:=λg hg hne=>by
       rw[@heap_alloc_old _ _ _ (by simp[World.setCell];exact hg)];simp only[World.setCell,Array.getElem?_modify];rw[Qc (λe=>hne (by omega))]
      have xd:=heap_alloc_new (w5.setCell ⟨w.heap.size+1+1+1,0,none⟩ (.slice (some ⟨R,0,none⟩) m m)) (.cells #[.int .i64 ((k:Int) - 1)] 3);have xl:(w5.setCell ⟨w.heap.size+1+1+1,0,none⟩ (.slice (some ⟨R,0,none⟩) m m)).heap.size=w5.heap.size:=by simp[World.setCell]
      rw[xl] at xd;have GN:((w5.setCell ⟨w.heap.size+1+1+1,0,none⟩ (.slice (some ⟨R,0,none⟩) m m)).alloc (.cells #[.int .i64 ((k:Int) - 1)] 3)).heap[w.heap.size+3]?=some (.cells [Value.slice (some ⟨R,0,none⟩) m m].toArray 46 (0,0)):=by
       rw[@heap_alloc_old _ _ _ (by rw[xl];exact lK5)];simp[World.setCell,Array.getElem?_modify,SI.out]
      have ti:((w5.setCell ⟨w.heap.size+1+1+1,0,none⟩ (.slice (some ⟨R,0,none⟩) m m)).alloc (.cells #[.int .i64 ((k:Int) - 1)] 3)).heap.size=w5.heap.size+1:=by rw[World.size_alloc,xl]
      have M1:Below w.heap.size w ((w5.setCell ⟨w.heap.size+1+1+1,0,none⟩ (.slice (some ⟨R,0,none⟩) m m)).alloc (.cells #[.int .i64 ((k:Int) - 1)] 3)):=((lV.out.trans (aK.out.mono lV.out.size)).blSe (p:=⟨w.heap.size+1+1+1,0,none⟩) _).alloc (by rw[xl];omega) _;generalize ((w5.setCell ⟨w.heap.size+1+1+1,0,none⟩ (.slice (some ⟨R,0,none⟩) m m)).alloc (.cells #[.int .i64 ((k:Int) - 1)] 3))=w7 at G2 xd GN ti M1 |-;have Yg:qp w.heap.size [Value.slice A N C,.string an,.int .i64 anchor.type,.int .i64 anchor.life,.slice aA aN aC,.int .i64 t,.int .i64 d] (.slice (some ⟨b,o,none⟩) wN wC) w7:=Ey.out.keep (λq _ h h3=>(G2 q (by omega) h3).trans (aK.out.block q (by omega)));refine⟨k,w5.heap.size,.slice (some ⟨R,0,none⟩) m m,Np.i9 x.set,rfl,rfl,by omega,by omega,by omega,jq xd,jq Yg,jq GN,jq (.inr ⟨R,m,x.set.data,rfl,by omega,by omega,By.out.same (G2 R Yn (by omega)),HM.out,by have:=HM.out;omega,rfl⟩),jq M1,jq ?_⟩;rw[TL.out,tH.out];rfl
     case measure=>
      have xd:=heap_alloc_new (w5.setCell ⟨w.heap.size+1+1+1,0,none⟩ (.slice (some ⟨R,0,none⟩) m m)) (.cells #[.int .i64 ((k:Int) - 1)] 3);have xl:(w5.setCell ⟨w.heap.size+1+1+1,0,none⟩ (.slice (some ⟨R,0,none⟩) m m)).heap.size=w5.heap.size:=by simp[World.setCell]
      rw[xl] at xd;have h1:=ae [_] xd 0 _ rfl;have h2:=ae [_] HI.out 0 _ rfl;unfold MH;dsimp only;rw[h1,h2];dsimp only;omega
section
variable {α:Type}
end
theorem Qr{α:Type}{R:aUJ α}{sz n c:Nat}{w:World}{B:Nat}{xs:List α}(h:SlR R sz w B (.slice none n c) xs):n=0/\xs = []:=by
 obtain⟨A',c',hA',_,_,dH⟩:=h;simp only[Value.slice.injEq] at hA';obtain⟨rfl,rfl,rfl⟩:=hA'
 cases xs with
 | nil=>exact⟨rfl,rfl⟩
 | cons x xs=>
  obtain⟨b,o,e,hA,_⟩:=dH 0 x rfl
  cases hA
theorem Tryz.infoCloneDatum:(prog.info? 75).map (λi=>(i.zero,i.size,i.bytes))=some (some (.agg #[.string ⟨#[]⟩,.int .i64 0,.int .i64 0]),3,32):=by kernel_rfl
theorem Wi(v:Value)(xs:List Np.Datum)(hl:xs.length<=1000000)(w:World)(h:SlR bS 3 w w.heap.size v xs) :
 Calls prog 98 #[v] w λe w'=>∃ v',e = .returned v'/\aY bS 3 75 w.heap.size w.heap.size w' v' xs/\Below w.heap.size w w':=by
 have HD:=jq h;obtain⟨A,c,rfl,bi,fD⟩:=fc h;clear h;have heq:=run_eql_slice_nil (P:=prog) w 23 75 A xs.length c underlying23;have iH:Hid (Below w.heap.size w (w.alloc (.cells #[] 75))):=jq (blAl);obtain⟨i0,hi,cH,bx,cr⟩:=info_parts Tryz.infoCloneDatum
 cases A with
 | none=>
  obtain⟨hn,rfl⟩:=Qr HD.out;rw[List.length_nil] at heq |-;simp only[Option.isNone_none] at heq;go_enter func98,ntmps98;go_wp2_with fail;go_ret;exact⟨_,rfl,aY.nil _,vQ _ _⟩
 | some ad=>
  go_enter func98,ntmps98;go_wp2_with (at_builtin;refine I5 (R:=bS) (sz:=3) _ rfl _ _ 23 rfl w.heap.size w.heap.size 75 i0 (.agg #[.string ⟨#[]⟩,.int .i64 0,.int .i64 0]) 32 underlying23 hi cH bx cr rfl (by decide) _ [] rfl (aY.empty w (bQ _)) (some ad) c w.heap.size xs rfl (HD.out.keep br iH.out) (λr y h=>by (obtain⟨s,_,_,rfl⟩:=h;intro u hu;simp at hu;try rcases hu with rfl | rfl | rfl | rfl | rfl | rfl<;>rfl)) (by simp[maxLen];omega) (by simp;omega) (by simp) (bQ _) (bQ _) br bB ?_;intro v3 w3 kY ai gp;have H3:=jq (And.intro kY (iH.out.trans ai));clear kY ai gp);go_ret;exact⟨_,rfl,H3.out.1,H3.out.2⟩
theorem Tryz.infoCloneSig:(prog.info? 56).map (λi=>(i.zero,i.size,i.bytes))=some (some (.agg #[.string ⟨#[]⟩,.int .i64 0,.int .i64 0,.int .i64 0,.int .i64 0,.int .u64 0]),6,56):=by kernel_rfl
theorem Wj(v:Value)(xs:List Np.Sig)(hl:xs.length<=1000000)(w:World)(h:SlR dw 6 w w.heap.size v xs) :
 Calls prog 99 #[v] w λe w'=>∃ v',e = .returned v'/\aY dw 6 56 w.heap.size w.heap.size w' v' xs/\Below w.heap.size w w':=by
 have HD:=jq h;obtain⟨A,c,rfl,bi,fD⟩:=fc h;clear h;have heq:=run_eql_slice_nil (P:=prog) w 42 56 A xs.length c underlying42;have iH:Hid (Below w.heap.size w (w.alloc (.cells #[] 56))):=jq (blAl);obtain⟨i0,hi,cH,bx,cr⟩:=info_parts Tryz.infoCloneSig
 cases A with
 | none=>
  obtain⟨hn,rfl⟩:=Qr HD.out;rw[List.length_nil] at heq |-;simp only[Option.isNone_none] at heq;go_enter func99,ntmps99;go_wp2_with fail;go_ret;exact⟨_,rfl,aY.nil _,vQ _ _⟩
 | some ad=>
  go_enter func99,ntmps99;go_wp2_with (at_builtin;refine I5 (R:=dw) (sz:=6) _ rfl _ _ 42 rfl w.heap.size w.heap.size 56 i0 (.agg #[.string ⟨#[]⟩,.int .i64 0,.int .i64 0,.int .i64 0,.int .i64 0,.int .u64 0]) 56 underlying42 hi cH bx cr rfl (by decide) _ [] rfl (aY.empty w (bQ _)) (some ad) c w.heap.size xs rfl (HD.out.keep cK iH.out) (λr y h=>by (obtain⟨s,_,_,rfl⟩:=h;intro u hu;simp at hu;try rcases hu with rfl | rfl | rfl | rfl | rfl | rfl<;>rfl)) (by simp[maxLen];omega) (by simp;omega) (by simp) (bQ _) (bQ _) cK da ?_;intro v3 w3 kY ai gp;have H3:=jq (And.intro kY (iH.out.trans ai));clear kY ai gp);go_ret;exact⟨_,rfl,H3.out.1,H3.out.2⟩

theorem DN(n:ByteArray)(ty:Int):pJ (n.data.toList,ty) = .agg #[.string n,.int .i64 ty]:=by
 unfold pJ bl;simp
end
section
open Go.RowKit
attribute [local go_sem] Oper.semAt_some
theorem Np.IC:∀ {l x:List UInt8},x∈Np.aR l->46∉x:=by
 intro l
 induction l with
 | nil=>intro x h;simp[Np.aR] at h;subst h;simp
 | cons c r ih=>
  intro x h;unfold Np.aR at h;split at h
  ·rcases List.mem_cons.1 h with rfl | h
   ·simp
   ·exact ih h
  ·rename_i hc;split at h
   ·rename_i y ys hy;rcases List.mem_cons.1 h with rfl | h
    ·have:=ih (x:=y) (by rw[hy];simp)
     simp only[List.mem_cons,not_or];exact⟨λe=>hc e.symm,this⟩
    ·exact ih (by rw[hy];simp[h])
   ·simp at h;subst h;simp only[List.mem_singleton];exact λe=>hc e.symm
theorem Np.apY{a:List UInt8}(h:Np.ao a=true):∀ x∈Np.bY a,x≠[]/\46∉x:=λx hx=>by
 refine⟨Np.vY h x (by rw[<-Np.rA];exact List.mem_reverse.2 hx),?_⟩;unfold Np.bY at hx;split at hx
 ·cases hx
 ·exact Np.IC hx
def VL(o:Option (List UInt8))(c:ByteArray)(b:Bool):Prop:=(∀ l,o=some l->b=true/\c.data.toList=l/\c.size<=60/\Np.ao l=true)/\(o=none->b=false)
def Jh(o:Option (List UInt8))(w:World)(e:Ending)(w':World):Prop:=∃ c b,e = .returned (.tuple #[.string c,.bool b])/\VL o c b/\Below w.heap.size w w'
theorem Ft(s:ByteArray)(hv:Np.ao s.data.toList=true)(w:World) :
 Calls prog 298 #[.string s] w (Jh (Np.AS s.data.toList) w):=by
 have s6:=nL hv;have Aa:(Np.bY s.data.toList).length<=8:=by
  have h1:=Cc hv;rwa [<-Np.rA,List.length_reverse] at h1
 have tL:Hid (∀ x∈([42]:List UInt8)::Np.bY s.data.toList,x.length<=1000):=jq (λx hx=>by
  rcases List.mem_cons.1 hx with rfl | hx
  ·simp
  ·have h1:=Np.sr (l:=s.data.toList) (y:=x) (by rw[<-Np.rA];exact List.mem_reverse.2 hx);rw[be] at h1;omega)
 have Ka:Hid (∀ x∈([42]:List UInt8)::Np.bY s.data.toList,x≠[]/\46∉x):=jq (λx hx=>by
  rcases List.mem_cons.1 hx with rfl | hx
  ·exact⟨by simp,by simp⟩
  ·exact Np.apY hv x hx)
 have HV:=jq hv;have Dp:Np.AS s.data.toList=if Np.ao (Np.bR ([42]::Np.bY s.data.toList)) then some (Np.bR ([42]::Np.bY s.data.toList)) else none:=rfl
 obtain⟨O,hO⟩:=aRZ (Np.AS s.data.toList);rw[hO] at Dp |-;obtain⟨ps,ej⟩:=aRZ (Np.bY s.data.toList);rw[ej] at tL Ka Dp Aa;have E8:=jq Dp;have HP:=jq ej;clear hv Dp hO ej;go_enter func298,ntmps298;go_wp2_with fail;refine (ahK s HV.out w).mono ?_;rw[HP.out];rintro e w3 ⟨⟨v,rfl,hl⟩,hb⟩;have am:=jq hb;obtain⟨lA,ln,lc,rfl,nC,hlc,_⟩:=aM hl;subst nC;have HL:=jq hl;obtain⟨wb,te⟩:=aRZ (w3.alloc (.cells #[.string ⟨#[42]⟩] 9));have HO:Hid (aY RTx 1 9 w3.heap.size w3.heap.size wb (.slice (some ⟨w3.heap.size,0,none⟩) 1 1) [[42]]):=jq (by rw[<-te];exact PQ w3 ⟨#[42]⟩ (by decide));have ii:Below w3.heap.size w3 wb:=by rw[<-te];exact aj _ _
 have oO:w3.heap.size<=wb.heap.size:=ii.size;have Rx:=jq (am.out.trans (ii.mono am.out.size));have SV:=jq (HL.out.keep rB ii);obtain⟨i0,wS,cH,bx,cr⟩:=info_parts Tryz.infoStrV;clear hl hb ii;go_wp2_with (at_builtin;refine I5 (R:=RTx) (sz:=1) wb rfl _ _ 102 rfl w3.heap.size w3.heap.size 9 i0 (.string ⟨#[]⟩) 16 underlying102 wS cH bx cr rfl (by decide) _ [[42]] rfl HO.out lA lc w3.heap.size ps rfl SV.out (λr y h=>by (obtain⟨s,_,_,rfl⟩:=h;intro u hu;simp at hu;subst hu;rfl)) (by simp[maxLen];omega) (by simp;omega) oO (bQ _) (bQ _) rB AG ?_;intro v4 w4 ra av CW;have H4:=jq (And.intro ra (And.intro (yQ oO av.size) (Rx.out.trans (av.mono am.out.size))));clear ra av CW);have eH:=jq (H4.out.1.slr AG H4.out.2.1 (by simp;omega));obtain⟨jA,jn,jc,rfl,zL,_,_⟩:=aM eH.out;have zK:jn=ps.length+1:=by rw[<-zL];simp
 have SA:=jq zL;clear zL;refine (afZ jA jn jc ([[42]]++ps) SA.out (by omega) (by omega) tL.out Ka.out w4 eH.out).mono ?_;rintro e w5 ⟨rfl,hb⟩;have aK:=jq (H4.out.2.2.trans (hb.mono H4.out.2.2.size));clear hb;have e1:oT ([[42]]++ps)=oT ([42]::ps):=rfl;rw[e1];clear e1;by_cases uZ:Np.ao (Np.bR ([42]::ps))=true
 ·rw[oT,QbQ uZ];have Ou:(Np.bR ([42]::ps)).length<=60:=Np.km uZ;have hU:=jq uZ;obtain⟨J,hJ⟩:∃ J:ByteArray,(⟨(Np.bR ([42]::ps)).toArray⟩:ByteArray)=J:=⟨_,rfl⟩;have HJ:Hid (J.data.toList=Np.bR ([42]::ps)/\J.size<=60):=jq (by rw[<-hJ];exact⟨rfl,by rw[<-be];exact Ou⟩);rw[hJ];clear hJ uZ Ou;go_wp2_with fail;go_ret2;exact⟨J,true,rfl,⟨λl h=>(by rw[E8.out,QbQ hU.out] at h;cases h;exact⟨rfl,HJ.out.1,HJ.out.2,hU.out⟩),λh=>(by rw[E8.out,QbQ hU.out] at h;cases h)⟩,aK.out⟩
 ·rw[oT,Qc uZ];have hU:=jq uZ;clear uZ;go_wp2_with fail;go_ret2;exact⟨_,false,rfl,⟨λl h=>(by rw[E8.out,Qc hU.out] at h;cases h),λ_=>rfl⟩,aK.out⟩
theorem Xo:∀ args w,(callFunc 297 args).run prog w = .ok (.enter 297 args) w:=enters_of func297 (by kernel_rfl) rfl
theorem aMY(bn:Nat)(n:ByteArray)(cE:Np.ao n.data.toList=true)(x:Np.DSet)(hx:Np.NextOk x)(e:List Value)(w:World)(he:bO w w.heap.size e x)(cn:w.cell? ⟨bn,0,none⟩=some (.string n)) :
 Calls prog 297 #[.agg e.toArray,.pointer (some ⟨bn,0,none⟩)] w (Jh (Np.xN n.data.toList x) w):=by
 have xa:=nL cE;have mY:=DZ hx.val;have ln:=World.block_lt_of_cell? w _ cn;simp only at ln;obtain⟨s,t,b,o,k,c,nn,m,rfl,_,dp,sW,hs,au,hb,hc,ht,uY,mv,_,_,_,c0,_,_⟩:=xB he hx;rw[<-hs] at mY;have eC:=jq cE;have lU:=jq mY;have yy:=jq mv;have dS:(0:Int)<(k:Int):=by omega
 have Do:Np.xN n.data.toList x=Np.AS (if (Np.gR n.data.toList s.data.toList).length<(Np.gR n.data.toList t.data.toList).length\/Np.gR n.data.toList s.data.toList = [46] then Np.gR n.data.toList t.data.toList else Np.gR n.data.toList s.data.toList):=by unfold Np.xN;rw[hs,ht]
 rw[Do];obtain⟨CA,sF⟩:=aRZ (Np.gR n.data.toList s.data.toList);obtain⟨CB,sG⟩:=aRZ (Np.gR n.data.toList t.data.toList);have O2:Np.ao CA=true:=by rw[<-sF];exact Np.Fs cE
 have O3:Np.ao CB=true:=by rw[<-sG];exact Np.Fs cE
 rw[sF,sG];obtain⟨CO,FQ⟩:=aRZ (if CA.length<CB.length\/CA = [46] then CB else CA);rw[FQ];have rL:=jq sF;have ef:=jq sG;have RN:=jq FQ;have tT:=jq O2;have E5:=jq O3;clear hx he hs ht cE mY mv Do sF sG FQ O2 O3;go_enter func297,ntmps297;go_wp2_with fail;refine (Ce n s (by omega) (by omega) eC.out lU.out _).mono ?_;rintro e w2 ⟨a,rfl,ha,ag⟩;rw[rL.out] at ha;have aXJ:a.size<=60:=by rw[<-be,ha];exact Np.km tT.out
 have HA:=jq ha;have ax:=jq ((aj w _).trans (ag.mono (by simp)));have l2:w.heap.size<w2.heap.size:=by have:=ag.size;simp only[World.size_alloc] at this;omega
 have k0:=(ax.out.cell (p:=⟨b,o,none⟩) hb).trans c0;have kn:=(ax.out.cell (p:=⟨bn,0,none⟩) ln).trans cn;have j3:w2.cell? ⟨w.heap.size,3,none⟩=some (.slice (some ⟨b,o,none⟩) k c):=by rw[ag.cell (by simp)];go_simp
 clear ha ag c0 cn;go_upto_region 2 with fail
 go_region_with (go_at_call 261;refine (Ce n t (by omega) (by omega) eC.out yy.out w2.drew).mono ?_;rintro e w3 ⟨bb,rfl,ii,ai⟩;have dW:=jq (ii.trans ef.out);have am:Hid (Below w2.heap.size w2 w3):=jq ((vQ w2.heap.size w2).drew.trans ai);clear ai ii)
 all_goals
  have aF:=jq (ax.out.trans (am.out.mono ax.out.size));have aXX:bb.size<=60:=by rw[<-be,dW.out];exact Np.km E5.out
  have e1:=be a;have e2:=be bb;rw[HA.out] at e1;rw[dW.out] at e2;have uA:=RN.out;rw[e1,e2] at uA;by_cases h1:a.size<bb.size
  ·have hc:CO=CB:=by rw[<-uA,QbQ (.inl h1)]
   have HC:Hid (bb.data.toList=CO/\Np.ao bb.data.toList=true):=jq (by rw[dW.out,hc];exact⟨rfl,E5.out⟩);clear hc uA e1 e2 k0 kn j3;go_wp2_with fail;refine (Ft bb HC.out.2 _).mono ?_;rintro e w5 ⟨q,r,rfl,hq,aI⟩;have HQ:=jq hq;have aK:=jq (aF.out.trans (aI.mono aF.out.size));clear hq aI;go_wp2_with fail;go_ret2;exact⟨q,r,rfl,by have:=HQ.out;rwa [HC.out.1] at this,aK.out⟩
  ·by_cases h2:a.data.toList = [46]
   ·have hc:CO=CB:=by rw[<-uA,QbQ (.inr (by rw[<-HA.out];exact h2))]
    have HC:Hid (bb.data.toList=CO/\Np.ao bb.data.toList=true):=jq (by rw[dW.out,hc];exact⟨rfl,E5.out⟩);have h3:(a.toList == [46])=true:=by rw[dQ,h2];rfl
    clear hc uA e1 e2 k0 kn j3 h2;go_wp2_with fail;refine (Ft bb HC.out.2 _).mono ?_;rintro e w5 ⟨q,r,rfl,hq,aI⟩;have HQ:=jq hq;have aK:=jq (aF.out.trans (aI.mono aF.out.size));clear hq aI;go_wp2_with fail;go_ret2;exact⟨q,r,rfl,by have:=HQ.out;rwa [HC.out.1] at this,aK.out⟩
   ·have hc:CO=CA:=by rw[<-uA,Qc (by rintro (h | h);exact h1 h;exact h2 (by rw[HA.out];exact h))]
    have HC:Hid (a.data.toList=CO/\Np.ao a.data.toList=true):=jq (by rw[HA.out,hc];exact⟨rfl,tT.out⟩);have h3:(a.toList == [46])=false:=by rw[dQ];simpa using h2
    clear hc uA e1 e2 k0 kn j3 h2;go_wp2_with fail;refine (Ft a HC.out.2 _).mono ?_;rintro e w5 ⟨q,r,rfl,hq,aI⟩;have HQ:=jq hq;have aK:=jq (aF.out.trans (aI.mono aF.out.size));clear hq aI;go_wp2_with fail;go_ret2;exact⟨q,r,rfl,by have:=HQ.out;rwa [HC.out.1] at this,aK.out⟩
end
end Go.Proofs.YtadhigmjilijcaaGreatDoor
