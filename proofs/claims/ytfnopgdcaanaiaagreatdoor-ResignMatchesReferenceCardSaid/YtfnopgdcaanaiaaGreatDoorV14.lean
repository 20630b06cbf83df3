/- Parts of the proof. No condition. -/
import Derived.Test.YtfnopgdcaanaiaaGreatDoorV10
import Derived.Test.YtfnopgdcaanaiaaGreatDoorV12
import Derived.Test.YtfnopgdcaanaiaaGreatDoorV13
set_option linter.all false
set_option maxRecDepth 100000
set_option maxHeartbeats 8000000
namespace Go.Proofs.YtfnopgdcaanaiaaGreatDoor
open Go.Proofs.Tryz
section
open Go.RowKit Go.Shelf
attribute [local go_sem] Oper.semAt_some
theorem fp.block{w w':World}{B:Nat}{xs:List (List UInt8)}(h:fp w B xs)(hb:w'.heap[B]?=w.heap[B]?):fp w' B xs:=λj x hx=>by
 obtain⟨s,h1,h2,h3,h4⟩:=h j x hx;refine⟨s,h1,h2,(iQ (a:=⟨B,j,none⟩) hb).trans h3,?_⟩;rw[<-h4];simp only[World.frozen?,hb]
def Ma(w:World)(M b5 b6:Nat)(pre:List (List UInt8))(S:Nat->Prop)(W:World):Prop:=
 (∀ k,S k↔k=M\/k=b5\/k=b6)/\Boxed W b5 116 (.slice (some ⟨M,0,none⟩) 8 8)/\Boxed W b6 3 (.int .i64 ((8 - pre.length:Nat):Int))/\pre.length<=8/\Hid (fp W M (List.replicate (8 - pre.length) []++pre.reverse))/\M<W.heap.size/\Below w.heap.size w W
theorem PA(w:World)(M b5 b6:Nat)(B:Nat)(hB:w.heap.size<=B):fm B (Ma w M b5 b6):=by
 rintro s S W W' ⟨hS,h1,h2,h3,h4,h6,h5⟩ az;refine⟨hS,g9 h1 az ((hS _).2 (.inr (.inl rfl))),g9 h2 az ((hS _).2 (.inr (.inr rfl))),h3,jq (h4.out.block ?_),lQ h6 az.size,th h5 az hB (bQ _)⟩;exact az.keep _ h6 (.inr ((hS _).2 (.inl rfl)))
theorem Za{p:Nat}{pre:List (List UInt8)}{x:List UInt8}(hp:pre.length=p)(h8:p<8):(List.replicate (8 - p) []++pre.reverse).set (8 - (p+1)) x=List.replicate (8 - (p+1)) []++(pre ++ [x]).reverse:=by
 have e:List.replicate (8 - p) ([]:List UInt8)=List.replicate (8 - (p+1)) [] ++ [[]]:=by
  rw[show 8 - p=(8 - (p+1))+1 by omega,List.replicate_succ']
 rw[e,List.append_assoc,List.set_append_right _ _ (by rw[List.length_replicate];exact bQ _),List.length_replicate,Nat.sub_self,List.reverse_append];rfl
theorem Hm:∀ (xs:List (List UInt8)) (n:Nat) (b:Bool),Np.fq xs n b=true->n<=8->n+xs.length<=8
 | [],n,b,_,h=>by simpa using h
 | x::xs,n,b,h,hn=>by
   unfold Np.fq at h;split at h
   ·cases h
   ·rename_i hc;simp only[Bool.or_eq_true,Qa,not_or] at hc;rw[List.length_cons];split at h
    ·have:=Hm xs (n+1) true h (by omega);omega
    ·split at h
     ·have:=Hm xs (n+1) false h (by omega);omega
     ·cases h
theorem UL{l:List UInt8}(h:Np.aG l=true):(Np.back l).length<=8:=by
 unfold Np.back;split
 ·simp
 ·rename_i hd;unfold Np.aG at h;rw[Qc hd] at h;split at h
  ·cases h
  ·have:=Hm _ 0 false h (by omega)
   omega
theorem Zf(t:ByteArray)(hv:Np.aG t.data.toList=true)(w:World) :
 Calls prog 187 #[.string t] w λe w'=>(∃ v,e = .returned (.tuple #[v,.int .i64 0])/\SlR RTx 1 w' w'.heap.size v (Np.eI t.data.toList))/\Below w.heap.size w w':=by
 have ht:t.size<=60:=yH hv;have y7:Hid ((Np.back t.data.toList).length<=8):=jq (UL hv);have HV:=jq hv;clear hv;have gK:∀ w:World,(Instr.makeSlice 116 (.int .i64 8) (.int .i64 8)).run prog w = .ok (.slice (some ⟨w.heap.size,0,none⟩) 8 8) (w.alloc (.cells (madeCells #[Value.string ⟨#[]⟩] 8) 9)):=λw=>JF 8 (by decide) w;have HZ:Hid (∀ j,j<8->(madeCells #[Value.string ⟨#[]⟩] 8)[j]?=some (.string ⟨#[]⟩)):=jq (λj hj=>JE _ _ hj);generalize madeCells #[Value.string ⟨#[]⟩] 8=Z at gK HZ;refine (callsIn_wide (n:=0)).1 ?_;refine callsIn_of_wp_marks func187 rfl trivial ?_ rfl;simp only[ntmps187,List.size_toArray,List.length_cons,List.length_nil,Nat.reduceAdd,Nat.reduceSub,Array.replicate_succ,Array.replicate_zero,List.push_toArray,List.append_toArray,List.nil_append,List.cons_append];gi_wp2_with fail;refine⟨trivial,rfl,?_⟩;refine (callsIn_wide.2 (valid_any t (by omega) _)).mono ?_;rintro e w1 ⟨rfl,aq⟩;rw[HV.out];have am:=jq aq;have ba:=aq.size;clear aq;gi_wp2_with fail;have b5:=Boxed.new (w1.alloc (.cells Z 9)) 116 (.slice (some ⟨w1.heap.size,0,none⟩) 8 8);have b6:=Boxed.new ((w1.alloc (.cells Z 9)).alloc (.cells #[.slice (some ⟨w1.heap.size,0,none⟩) 8 8] 116)) 3 (.int .i64 8);simp only[World.size_alloc] at b5 b6;have AC:fp (w1.alloc (.cells Z 9)) w1.heap.size (List.replicate 8 []):=λj x hx=>by
  rw[List.getElem?_replicate] at hx;split at hx
  ·rename_i hj
   cases hx
   exact⟨⟨#[]⟩,rfl,by decide,by simp[go_sem];exact HZ.out j hj,by simp[go_sem]⟩
  ·cases hx
 refine Cx (n₀:=w.heap.size) (w0:=w) (first:=#[.string t]) (captured:=#[]) (gf:=215) rfl (enters_of func215 (by kernel_rfl) rfl) (mk:=λy=>#[.string t,y]) (λ_=>rfl)
  (Dg t (by omega) _ w) (am.out.trans ((((vQ _ w1).alloc (bQ _) _).alloc (by simp) _).alloc (by simp;omega) _ |>.mono ba)) (by simp;omega) (λ_=>rfl) (Ma w w1.heap.size (w1.heap.size+1) (w1.heap.size+1+1)) (λ_ _ _ _=>False)
  (PA _ _ _ _ _ (by simp;omega)) (λc s S W W' h _=>h)
  (λk=>k=w1.heap.size\/k=w1.heap.size+1\/k=w1.heap.size+1+1) (by intro k h;omega) (by intro k h;simp;omega)
  ⟨λ_=>Iff.rfl,b5.alloc _,b6,by simp,jq ((AC.keep (((vQ _ _).alloc (bQ _) _).alloc (by simp) _) (by simp))),by simp;omega,am.out.trans ((((vQ _ w1).alloc (bQ _) _).alloc (by simp) _).alloc (by simp;omega) _ |>.mono ba)⟩ ?round ?done ?stop
 case round=>
  rintro l0 pre x S W bg hI gh;gi_wp2;refine⟨S,RdStep.refl _ _,λk e=>.inl e,gh,?_⟩;intro l W₂ az;obtain⟨hS,c5,c6,h8,hrow,Hz,hB⟩:=PA w _ _ _ _ (by simp;omega) pre S W W₂ hI az;have vY:pre.length+1<=8:=by
   have:=bg.length_le
   have h9:=y7.out;simp at this;omega
  have hx:x∈Np.back t.data.toList:=bg.subset (by simp);have sw:x.length<=60:=by have:=Np.Df hx;rw[bk] at this;omega
  have fu:∀ k,S k->k<W₂.heap.size:=λk e=>lQ (gh k e) az.size;obtain⟨j,hj⟩:∃ j,8 - (pre.length+1)=j:=⟨_,rfl⟩;have hq:((8 - pre.length:Nat):Int)=((j+1:Nat):Int):=by omega
  rw[hq] at c6;have hj8:j<8:=by omega
  obtain⟨sz,_,_,rH,vJ⟩:=hrow.out j [] (by rw[List.getElem?_append_left (by rw[List.length_replicate];omega),List.getElem?_replicate,Qb (by omega)]);have mY:Hid (∀ W',fp W' w1.heap.size (List.replicate (8 - pre.length) []++pre.reverse)->fp (W'.setCell ⟨w1.heap.size,j,none⟩ (aC x)) w1.heap.size (List.replicate (8 - (pre ++ [x]).length) []++(pre ++ [x]).reverse)):=jq (λW' hW=>by
   have h1:=hW.store (k:=j) (by rw[List.length_append,List.length_replicate,List.length_reverse];omega) ⟨x.toArray⟩ (by rw[<-bk];simp;omega);have e:((⟨x.toArray⟩:ByteArray).data.toList)=x:=by simp
   rw[e,<-hj,Za rfl (by omega)] at h1;rw[List.length_append,List.length_singleton,<-hj];exact h1)
  have HOLD:=jq hrow.out;have dp:=jq c5;have js:=jq c6;have c5c:=c5.cell;have c6c:=c6.cell;have c5f:=c5.frozen;have c6f:=c6.frozen;have ai:IntKind.i64.wrap (((j+1:Nat):Int) - 1)=(j:Int):=by rw[IntWalk.i64_in _ (by omega)];omega
  have jD:(0:Int)<=(j:Int):=by omega
  have rO:(j:Int)<8:=by omega
  have HJ:=jq hj;clear hx hq bg hI hrow c5 c6 hj;have hlen:8 - (pre ++ [x]).length=j:=by rw[List.length_append,List.length_singleton];exact HJ.out
  have sS:=jq hlen;clear hlen;gi_wp2;refine⟨S,((RdStep.refl S W₂).setCell (p:=⟨w1.heap.size+1+1,0,none⟩) (.inl ((hS _).2 (.inr (.inr rfl)))) _).setCell (p:=⟨w1.heap.size,j,none⟩) (.inl ((hS _).2 (.inl rfl))) _,λ_ e=>.inl e,λk e=>by have:=fu k e;simp[World.setCell];omega,hS,?_,?_,by rw[List.length_append,List.length_singleton];omega,jq (mY.out _ (HOLD.out.other (by simp <;> omega) _)),by simpa using Hz,(hB.setCell (p:=⟨w1.heap.size+1+1,0,none⟩) (by simp;omega) _).setCell (p:=⟨w1.heap.size,j,none⟩) (by simpa using ba) _⟩
  ·exact cn (cn dp.out (p:=⟨w1.heap.size+1+1,0,none⟩) (by simp) _) (p:=⟨w1.heap.size,j,none⟩) (by simp) _
  ·rw[sS.out];exact cn (js.out.set _) (p:=⟨w1.heap.size,j,none⟩) (by simp <;> omega) _
 case done=>
  rintro D S W hD ft aV ⟨hS,c5,c6,h8,hrow,Hz,hB⟩ hK;have c5c:=c5.cell;have c6c:=c6.cell;obtain⟨n,hn⟩:=aJZ ((Np.back t.data.toList).length);rw[hn] at c6c h8;obtain⟨q,hq⟩:∃ q,8 - n=q:=⟨_,rfl⟩;rw[hq] at c6c;have vZ:q<=8:=by omega
  have ke:(0:Int)<=(q:Int):=by omega
  have I3:(q:Int)<=8:=by omega
  have HN:=jq hn;have HQ:=jq hq;have Tm:Hid (w1.heap.size≠D):=jq (λe=>ft ((hS _).2 (.inl e.symm)));have mY:=jq hrow.out;have LE:Hid (Np.eI t.data.toList=(Np.back t.data.toList).reverse):=jq (by rw[<-Np.B9,List.reverse_reverse]);have GN:Hid (∀ x∈Np.back t.data.toList,x.length<=140737488355328):=jq (λx hx=>by have:=Np.Df hx;rw[bk] at this;omega);clear hrow;by_cases lU:n=0
  ·have XZ:q=8:=by omega
   have Tt:Hid (Np.eI t.data.toList = []):=jq (by rw[LE.out,rQ (HN.out.trans lU)];rfl);clear hn hq c5 c6 lU;subst XZ;gi_wp2;exact oC hK (v:=.tuple #[.slice (some ⟨w1.heap.size,0,none⟩) 0 0,.int .i64 0]) (by simp[results,results187,go_sem]) ⟨⟨_,rfl,by rw[Tt.out];exact⟨_,_,rfl,by simp,by simp,λi x hx=>by simp at hx⟩⟩,oz hB (by have:=am.out.size;simp at hD;omega) _⟩
  ·have BI:q<8:=by omega
   have aWZ:(q:Int)<8:=by omega
   have gL:¬ q=8:=by omega
   have fI:Hid (8 - q=n):=jq (by omega);have Ov:8 - q=n:=by omega
   clear hn hq c5 c6 lU;gi_wp2;refine oC hK (v:=.tuple #[.slice (some ⟨w1.heap.size,q,none⟩) n n,.int .i64 0]) (by simp[results,results187,go_sem]) ⟨⟨_,rfl,?_⟩,oz hB (by have:=am.out.size;simp at hD;omega) _⟩;have hr:fp (W.putObj D (.deferred none)) w1.heap.size (List.replicate (8 - (Np.back t.data.toList).length) []++(Np.back t.data.toList).reverse):=mY.out.block (zQ Tm.out);rw[LE.out];have qB:(Np.back t.data.toList).reverse.length=n:=by rw[List.length_reverse];exact HN.out
   refine⟨_,n,by rw[qB],by omega,by omega,λi x hx=>?_⟩;have hin:=(cQ.1 hx).1;obtain⟨s,h1,h2,h3,_⟩:=hr (q+i) x (by rw[HN.out,HQ.out,oQ (by rw[List.length_replicate];omega),List.length_replicate,show q+i - q=i by omega];exact hx);refine⟨w1.heap.size,q,[.string s],rfl,by simpa using Hz,rfl,λj v hv=>?_,s,h1,h2,rfl⟩
   match j,hv with
   | 0,hv=>cases hv;simpa using h3
 case stop=>
  rintro D c pre S W hD ft aV iV h hK;exact h.elim
theorem aCJ(s:ByteArray)(h:Np.aG s.data.toList=true)(w:World) :
 Calls prog 246 #[.string s] w (aOJ w.heap.size w (.bool (Np.eF s.data.toList))):=by
 have hw:=Rz h;obtain⟨ps,fz⟩:=aJZ (Np.eI s.data.toList);obtain⟨r,hr⟩:=aJZ (ps.head? == some [42]);rw[hw,fz,hr];have rn:=jq fz;have HR:=jq hr;have HV:=jq h;clear hw h fz hr;go_enter func246,ntmps246;go_wp2_with fail;refine (Zf s HV.out _).mono ?_;rw[rn.out];rintro e w1 ⟨⟨v,rfl,hv⟩,hb⟩;have HB:=jq hb;clear hb;obtain⟨A,c,rfl,hc,hl,he⟩:=hv
 cases ps with
 | nil=>
  have HX:Hid (r=false):=jq (by rw[<-HR.out];rfl);go_wp2_with fail;go_ret;exact⟨ae HX.out.symm,HB.out⟩
 | cons x xs=>
  obtain⟨b,o,e,rfl,bB,_,hce,sx,tY,_,rfl⟩:=he 0 x rfl;have h0:w1.cell? ⟨b,o,none⟩=some (.string sx):=by have:=hce 0 _ rfl;simpa using this
  obtain⟨q,hq⟩:=aJZ (sx.toList == [42]);have HX:Hid (q=r):=jq (by rw[<-HR.out,<-hq,dQ,tY,List.head?_cons,Bool.eq_iff_iff];simp);obtain⟨n,hn⟩:=aJZ ((x::xs).length);have lU:0<n:=by rw[<-hn];simp
  have XR:(0:Int)<(n:Int):=by omega
  rw[hn];clear he hce hc hl hn tY
  cases q with
  | true=>
   go_wp2_with fail;go_ret;exact⟨ae HX.out,HB.out⟩
  | false=>
   go_wp2_with fail;go_ret;exact⟨ae HX.out,HB.out⟩
end
section
open Go.RowKit
def lN(_:World)(_:Nat)(e:List Value)(x:Np.Host):Prop:=∃ s:ByteArray,s.data.toList=x.name/\s.size<=140737488355328/\e = [.string s,.int .i64 x.addr,.int .i64 x.owner]
theorem nR:dH lN:=λ_ _ _ _ _ h _=>h
theorem wH:eh lN:=λ_ _ _ _ _ h _=>h
theorem BG{w:World}{B n c:Nat}{A:Option Addr}{xs:List Np.Host}(h:SlR lN 3 w B (.slice A n c) xs){k:Nat}{x:Np.Host}(hx:xs[k]?=some x):∃ (b o:Nat) (s:ByteArray),A=some ⟨b,o,none⟩/\b<B/\s.data.toList=x.name/\s.size<=140737488355328/\w.cell? ⟨b,o+k * 3,none⟩=some (.string s)/\w.cell? ⟨b,o+k * 3+1,none⟩=some (.int .i64 x.addr)/\w.cell? ⟨b,o+k * 3+2,none⟩=some (.int .i64 x.owner):=by
 obtain⟨A',c',hv,hc,_,he⟩:=h;simp only[Value.slice.injEq] at hv;obtain⟨rfl,_,_⟩:=hv;obtain⟨b,o,e,rfl,hb,_,hce,s,h1,h2,rfl⟩:=he k x hx;exact⟨b,o,s,rfl,hb,h1,h2,by have:=hce 0 _ rfl;simpa using this,hce 1 _ rfl,hce 2 _ rfl⟩
theorem YR{w:World}{B n c:Nat}{A:Option Addr}{xs:List Int}(h:SlR iM 1 w B (.slice A n c) xs){k:Nat}{x:Int}(hx:xs[k]?=some x):∃ (b o:Nat),A=some ⟨b,o,none⟩/\b<B/\w.cell? ⟨b,o+k,none⟩=some (.int .i64 x):=by
 obtain⟨A',c',hv,hc,_,he⟩:=h;simp only[Value.slice.injEq] at hv;obtain⟨rfl,_,_⟩:=hv;obtain⟨b,o,e,rfl,hb,_,hce,rfl⟩:=he k x hx;exact⟨b,o,rfl,hb,by have:=hce 0 _ rfl;simpa using this⟩
def Np.lO(n:Int):Bool:=decide (1<=n)&&decide (n<=1000000)
theorem Kl(n:Int)(w:World) :
 Calls prog 247 #[.int .i64 n] w (aPQ w (.bool (Np.lO n))):=by
 obtain⟨r,hr⟩:=aJZ (Np.lO n);rw[hr];by_cases h1:1<=n
 ·by_cases h2:n<=1000000
  ·have HX:Hid (r=true):=jq (by rw[<-hr];simp[Np.lO,h1,h2]);clear hr;go_enter func247,ntmps247;go_wp2_with fail;go_ret;exact⟨ae HX.out.symm,rfl⟩
  ·have HX:Hid (r=false):=jq (by rw[<-hr];simp[Np.lO,h2]);clear hr;go_enter func247,ntmps247;go_wp2_with fail;go_ret;exact⟨ae HX.out.symm,rfl⟩
 ·have HX:Hid (r=false):=jq (by rw[<-hr];simp[Np.lO,h1]);clear hr;go_enter func247,ntmps247;go_wp2_with fail;go_ret;exact⟨ae HX.out.symm,rfl⟩
theorem Mj(a:Int):∀ l:List Np.Host,(((l.map λh=>(h.addr,Value.bool true)).lookup a).getD (.bool false) = .bool (decide (a∈l.map (·.addr))))/\(a∉l.map (·.addr)->(l.map λh=>(h.addr,Value.bool true)).lookup a=none)
 | []=>⟨rfl,λ_=>rfl⟩
 | h::l=>by
   obtain⟨i1,i2⟩:=Mj a l;rw[List.map_cons,List.map_cons];by_cases e:a=h.addr
   ·subst e;rw[List.lookup_cons_self];exact⟨by simp,λhn=>absurd (by simp) hn⟩
   ·have hb:(a == h.addr)=false:=by simpa using e
    rw[List.lookup_cons,hb];exact⟨by rw[i1];simp[e],λhn=>i2 λhm=>hn (mQ _ hm)⟩
theorem aAX(v:Value)(l:List Np.Host)(w:World)(hd:SlR lN 3 w w.heap.size v l) :
 Calls prog 180 #[v] w (aOJ w.heap.size w (.bool (Np.yes (Np.VHosts l)))):=by
 obtain⟨r,hr⟩:=aJZ (Np.yes (Np.VHosts l));rw[hr];have HR:=jq hr;have HD:=jq hd;obtain⟨A,c,rfl,be,bC⟩:=aj hd;clear hr hd;by_cases vn:l.length<=64
 ·have Fo:=jq vn;have vS:∀ (w:World),(Instr.makeMap 298 none).run prog w = .ok (.map (some w.heap.size)) (w.alloc (.map #[] 0)):=λw=>by
   simp[Instr.makeMap,Result.andThen]
  go_enter func180,ntmps180;go_wp2_with fail;have uK:=jq (m9.made w);have aq:Below w.heap.size w (w.alloc (.map #[] 0)):=(vQ _ w).alloc (bQ _) _;have am:=jq aq;have ba:w.heap.size<(w.alloc (.map #[] 0)).heap.size:=by simp
  clear aq;generalize w.alloc (.map #[] 0)=w1 at *;go_loopw [12] (λi wr=>∃ k:Nat,k<=l.length/\i = .int .i64 k/\Hid (Below w.heap.size w wr)/\w.heap.size<wr.heap.size/\Hid (m9 w.heap.size ((l.take k).map λh=>(h.addr,Value.bool true)) wr)/\Hid (∀ j x,j<k->l[j]?=some x->Np.HostOk x)/\Hid (((l.take k).map (·.addr)).Nodup)) (λi _=>l.length - (intOf i).toNat)
  case atStart=>exact⟨0,jQ _,rfl,am,ba,uK,jq (λj x hj=>by omega),jq (by simp)⟩
  case round=>
   obtain⟨k,hk,rfl,HB,bR,HM,HA,zt⟩:=hrel;by_cases aa:k<l.length
   ·obtain⟨x,ab⟩:∃ x,l[k]?=some x:=⟨_,aQ aa⟩;obtain⟨b,o,sn,rfl,bj,ay,cC,f0,f1,f2⟩:=BG (HD.out.keep nR HB.out) ab;have ht:l.take (k+1)=l.take k ++ [x]:=by
     obtain⟨hl,he⟩:=cQ.1 ab;rw[fQ hl,he]
    have HT:=jq ht;have HN:Hid (Np.HostOk x->∀ j y,j<k+1->l[j]?=some y->Np.HostOk y):=jq (λh j y hj hy=>by
     by_cases e:j=k
     ·subst e;rw[ab] at hy;cases hy;exact h
     ·exact HA.out j y (by omega) hy)
    have HF:Hid (¬ Np.HostOk x->r=false):=jq (λh=>by rw[<-HR.out];exact Np.aS λq=>h (q.each x (gQ ab)));have uD:Hid (x.addr∈(l.take k).map (·.addr)->r=false):=jq (λh=>by
     rw[<-HR.out];refine Np.aS λq=>?_;have h1:=q.addrs;have h2:(l.take (k+1)).map (·.addr) <+: l.map (·.addr):=by rw[List.map_take];exact List.take_prefix _ _
     have h3:=h1.sublist h2.sublist;rw[ht,List.map_append,List.nodup_append] at h3;exact h3.2.2 x.addr h x.addr (by simp) rfl)
    have aW:=jq ay;have eb:Hid (∀ o,Below wr.heap.size wr (wr.alloc o)):=jq (λo=>(vQ _ _).alloc (bQ _) _);obtain⟨w2,ag⟩:=aJZ (wr.alloc (.cells #[.string sn,.int .i64 x.addr,.int .i64 x.owner] 101));have ac:Below wr.heap.size wr w2:=by rw[<-ag];exact eb.out _
    have p0:w2.cell? ⟨wr.heap.size,0,none⟩=some (.string sn):=by rw[<-ag];simp[go_sem]
    have p1:w2.cell? ⟨wr.heap.size,1,none⟩=some (.int .i64 x.addr):=by rw[<-ag];simp[go_sem]
    have p2:w2.cell? ⟨wr.heap.size,2,none⟩=some (.int .i64 x.owner):=by rw[<-ag];simp[go_sem]
    have aN:wr.heap.size<w2.heap.size:=by rw[<-ag];simp
    have ah:=jq ac;clear ab ay ht ac;go_wp2_with fail;clear ag f0 f1 f2;refine (nameValid_any sn cC _).mono ?_;rintro e w3 ⟨rfl,ak⟩;have gV:=ak.size;have aA:=aIX ah ak;replace p0:w3.cell? ⟨wr.heap.size,0,none⟩=some (.string sn):=(ak.cell (by simpa using aN)).trans p0;replace p1:w3.cell? ⟨wr.heap.size,1,none⟩=some (.int .i64 x.addr):=(ak.cell (by simpa using aN)).trans p1;replace p2:w3.cell? ⟨wr.heap.size,2,none⟩=some (.int .i64 x.owner):=(ak.cell (by simpa using aN)).trans p2;clear ak
    cases lE:Np.aG sn.data.toList with
    | false=>
     have HX:Hid (r=false):=jq (HF.out λh=>by have:=h.name;rw[<-aW.out,lE] at this;cases this);clear lE;go_wp2_with fail;go_ret;exact⟨ae HX.out.symm,HB.out.trans (aA.out.aKZ)⟩
    | true=>
     have iu:=jq lE;clear lE;go_wp2_with fail;refine (aCJ sn iu.out _).mono ?_;rintro e w4 ⟨rfl,ar⟩;have jm:=ar.size;have b7:=aIX aA ar;replace p1:=aIZ ar p1;replace p2:=aIZ ar p2;clear ar p0
     cases so:Np.eF sn.data.toList with
     | true=>
      have HX:Hid (r=false):=jq (HF.out λh=>by have:=h.wild;rw[<-aW.out,so] at this;cases this);clear so;go_wp2_with fail;go_ret;exact⟨ae HX.out.symm,HB.out.trans (b7.out.aKZ)⟩
     | false=>
      have GL:=jq so;clear so;by_cases pO:x.owner<0
      ·have HX:Hid (r=false):=jq (HF.out λh=>by have:=h.owner;omega);go_wp2_with fail;go_ret;exact⟨ae HX.out.symm,HB.out.trans (b7.out.aKZ)⟩
      ·have g1:decide (x.owner<0)=false:=by simpa using pO
       by_cases fw:32<=x.owner
       ·have g2:decide (32<=x.owner)=true:=by simpa using fw
        have HX:Hid (r=false):=jq (HF.out λh=>by have:=h.owner;omega);go_wp2_with fail;go_ret;exact⟨ae HX.out.symm,HB.out.trans (b7.out.aKZ)⟩
       ·have g2:decide (32<=x.owner)=false:=by simpa using fw
        have iH:Hid (0<=x.owner/\x.owner<=31):=jq (by omega);clear pO fw
        cases vw:Np.lO x.addr with
        | false=>
         have HX:Hid (r=false):=jq (HF.out λh=>by have:=h.addr;simp[Np.lO] at vw;omega);have HC:Hid (∀ w,Calls prog 247 #[.int .i64 x.addr] w λe w'=>e = .returned (.bool false)/\w=w'):=jq (λw=>by rw[<-vw];exact Kl _ _);clear vw;go_wp2_with (go_at_call 247;refine (HC.out _).mono ?_;rintro e w' ⟨rfl,rfl⟩);go_ret;exact⟨ae HX.out.symm,HB.out.trans (b7.out.aKZ)⟩
        | true=>
         have bG:Hid (Np.HostOk x):=jq ⟨by rw[<-aW.out];exact iu.out,by rw[<-aW.out];exact GL.out,by simp[Np.lO] at vw;exact vw,iH.out⟩;have HC:Hid (∀ w,Calls prog 247 #[.int .i64 x.addr] w λe w'=>e = .returned (.bool true)/\w=w'):=jq (λw=>by rw[<-vw];exact Kl _ _);have cj:Hid (m9 w.heap.size ((l.take k).map λh=>(h.addr,Value.bool true)) w4):=jq (HM.out.keep b7.out bR);obtain⟨Bv,IQ⟩:=Mj x.addr (l.take k);have kP:=aqJ (P:=prog) w4 298 3 4 underlying298 underlying3 w.heap.size _ cj.out x.addr (.bool false) (by kernel_rfl);rw[Bv] at kP;clear vw Bv;by_cases hin:x.addr∈(l.take k).map (·.addr)
         ·have HX:Hid (r=false):=jq (uD.out hin);rw[uQ hin] at kP;clear hin IQ;go_wp2_with (go_at_call 247;refine (HC.out _).mono ?_;rintro e w' ⟨rfl,rfl⟩);go_ret;exact⟨ae HX.out.symm,HB.out.trans (b7.out.aKZ)⟩
         ·have mp:=jq (IQ hin);have Gh:Hid (((l.take (k+1)).map (·.addr)).Nodup):=jq (by
           rw[HT.out,List.map_append,List.nodup_append];refine⟨zt.out,by simp,λy hy z hz e=>?_⟩;simp at hz;exact hin (by rw[<-hz,<-e];exact hy))
          rw[tQ hin] at kP;clear hin IQ;go_wp2_with (first
           | (go_at_call 247;refine (HC.out _).mono ?_;rintro e w' ⟨rfl,rfl⟩)
           | (at_mapUpdate;refine aFX _ rfl _ _ _ 298 rfl 3 4 underlying298 underlying3 w.heap.size _ rfl cj.out x.addr rfl (.bool true) rfl mp.out ?_;intro w5 mK l3;have H5:=jq (And.intro mK l3);clear mK l3))
          go_roundw
          case rel=>exact⟨k+1,by omega,by go_num,jq ((HB.out.trans (b7.out.aKZ)).trans (H5.out.2.below (bQ _))),by rw[H5.out.2.size];omega,jq (by rw[HT.out,List.map_append];exact H5.out.1),jq (HN.out bG.out),Gh⟩
          case measure=>simp[intOf] <;> omega
   ·go_wp2_with fail;go_ret;refine⟨ae ?_,HB.out⟩;rw[<-HR.out];refine (Np.cu ⟨Fo.out,λx hx=>?_,?_⟩).symm
    ·obtain⟨j,hj,rfl⟩:=nQ.1 hx;exact HA.out j _ (by omega) (aQ hj)
    ·have:=zt.out
     rwa [kQ (by omega)] at this
 ·have HX:Hid (r=false):=jq (by rw[<-HR.out];exact Np.aS λq=>vn q.few);have Wr:64<l.length:=by omega
  clear vn;go_enter func180,ntmps180;go_wp2_with fail;go_ret;exact⟨ae HX.out.symm,vQ _ _⟩
section
variable {α:Type}
def Mc(R:aPK α)(B:Nat)(w:World)(f:FuncId)(cap:Array Value)(p:α->Bool)(xs:List α):Prop:=
 ∀ (W:World) (x:α) (e0:Value),x∈xs->Below B w W->B<=W.heap.size->R W B [e0] x->Calls prog f (#[e0]++cap) W λe w'=>e = .returned (.bool (p x))/\Below W.heap.size W w'
theorem YP{R:aPK α}(hK:dH R)(f:FuncId)(eg:∀ args w,(callFunc f args).run prog w = .ok (.enter f args) w)(cap:Array Value)(p:α->Bool)(v:Value)(xs:List α)(w:World)(B:Nat)(hB:B<=w.heap.size)(h:SlR R 1 w B v xs)
 (hp:Mc R B w f cap p xs) :
 Calls prog 319 #[v,.func (.func f) #[] cap] w (aOJ w.heap.size w (.int .i64 (mA p xs))):=by
 have H:=jq h;have HP:=jq hp;obtain⟨A,c,rfl,be,bC,ic⟩:=h;clear ic hp;go_enter func319,ntmps319;go_wp2_with fail;go_loopw [8] (λi wr=>∃ k:Nat,k<=xs.length/\i = .int .i64 k/\Below w.heap.size w wr/\Hid (∀ x∈xs.take k,p x=false)) (λi _=>xs.length - (intOf i).toNat)
 case atStart=>exact⟨0,jQ _,rfl,vQ _ _,jq (by simp)⟩
 case round=>
  obtain⟨k,hk,rfl,hb,HA⟩:=hrel;by_cases aa:k<xs.length
  ·have bj:=hb.mono hB;obtain⟨A',c',hA',_,_,aY⟩:=H.out.keep hK bj
   cases hA'
   obtain⟨b,o,e,rfl,bB,hlen,hce,hR⟩:=aY k _ (aQ aa)
   match e,hlen with
   | [e0],_=>
   have h0:wr.cell? ⟨b,o+k,none⟩=some e0:=by have:=hce 0 _ rfl;simpa using this
   have cB:=HP.out wr xs[k] e0 (List.getElem_mem aa) bj (by have:=hb.size;omega) hR;have HC:=jq cB;have dl:=jq hb;clear aY hce hR cB bj hb;go_wp2_with (fail);refine HC.out.mono ?_;rintro e w2 ⟨rfl,ac⟩;have ah:=jq ac;clear ac;by_cases bg:p xs[k]=true
   ·have HX:=jq bg;go_wp2_with (fail);go_ret;exact⟨jK (MX p xs k aa HA.out HX.out).symm,dl.out.trans (ah.out.mono dl.out.size)⟩
   ·have Ef:p xs[k]=false:=by simpa using bg
    have HX:=jq Ef;clear bg;go_wp2_with (fail);go_roundw
    case rel=>
     refine⟨k+1,by omega,by go_num,dl.out.trans (ah.out.mono dl.out.size),jq ?_⟩;rw[fQ aa];intro x hx;rcases List.mem_append.1 hx with h | h
     ·exact HA.out x h
     ·simp at h;subst h;exact HX.out
    case measure=>simp[intOf] <;> omega
  ·go_wp2_with fail;go_ret;exact⟨jK (MZ p xs (by have:=HA.out;rwa [kQ (by omega)] at this)).symm,hb⟩
theorem Vg{R:aPK α}(hK:dH R)(f:FuncId)(eg:∀ args w,(callFunc f args).run prog w = .ok (.enter f args) w)(cap:Array Value)(p:α->Bool)(v:Value)(xs:List α)(w:World)(B:Nat)(hB:B<=w.heap.size)(h:SlR R 1 w B v xs)
 (hp:Mc R B w f cap p xs) :
 Calls prog 248 #[v,.func (.func f) #[] cap] w (aOJ w.heap.size w (.bool (xs.any p))):=by
 have H:=jq h;have HP:=jq hp;have HE:=jq eg;clear h hp eg;go_enter func248,ntmps248;go_wp2_with (go_at_call 319;refine (YP hK f HE.out cap p v xs w B hB H.out HP.out).mono ?_;rintro e w' ⟨rfl,hb⟩);go_ret;exact⟨ae (MY p xs),hb⟩
end
theorem aoK(n:Int)(w:World) :
 Calls prog 249 #[.int .i64 n] w (aOJ w.heap.size w (.bool (!Np.lO n))):=by
 obtain⟨q,hq⟩:=aJZ (Np.lO n);have HC:Hid (∀ w,Calls prog 247 #[.int .i64 n] w λe w'=>e = .returned (.bool q)/\w=w'):=jq (λw=>by rw[<-hq];exact Kl _ _);rw[hq];clear hq
 cases q
 all_goals
  go_enter func249,ntmps249;go_wp2_with (go_at_call 247;refine (HC.out _).mono ?_;rintro e w' ⟨rfl,rfl⟩);go_ret;exact⟨rfl,vQ _ _⟩
theorem aAY(s:ByteArray)(hs:s.size<=140737488355328)(ty life:Int)(dv:Value)(d:List Np.Datum)(hv:Value)(hints:List Int)(w:World)(hR:iv w w.heap.size)(hd:SlR cA 3 w w.heap.size dv d)(hh:SlR iM 1 w w.heap.size hv hints) :
 Calls prog 182 #[.agg #[.string s,.int .i64 ty,.int .i64 life,dv],hv] w (aOJ w.heap.size w (.bool (Np.yes (Np.VRoot ⟨s.data.toList,ty,life,d⟩ hints)))):=by
 obtain⟨r,hr⟩:=aJZ (Np.yes (Np.VRoot ⟨s.data.toList,ty,life,d⟩ hints));rw[hr];have HR:=jq hr;have HD:=jq hd;have HH:=jq hh;have jw:=jq hR;obtain⟨A,c,rfl,be,bC⟩:=aj hd;obtain⟨A2,c2,rfl,dV,dJ⟩:=aj hh;clear hr hd hh hR;have HW:Hid (∀ o,Below w.heap.size w (w.alloc o)):=jq (λo=>(vQ _ w).alloc (bQ _) _);go_enter func182,ntmps182;go_wp2_with fail;refine (JT s hs ty life _ d _ ((jw.out.keep (HW.out _)).more (by simp)) (HD.out.later bD bP (HW.out _))).mono ?_;rintro e w1 ⟨rfl,aq⟩;have ba:w.heap.size<w1.heap.size:=by have:=aq.size;simp at this;omega
 have c0:w1.cell? ⟨w.heap.size,0,none⟩=some (.string s):=by rw[aq.cell (by simp)];go_simp
 have c1:w1.cell? ⟨w.heap.size,1,none⟩=some (.int .i64 ty):=by rw[aq.cell (by simp)];go_simp
 have am:=jq ((HW.out _).trans (aq.mono (by simp)));clear aq;obtain⟨n,hn⟩:=aJZ hints.length;have HN:=jq hn;rw[hn] at HH dV dJ |-;clear hn
 cases fC:Np.dC ⟨s.data.toList,ty,life,d⟩ with
 | false=>
  have HX:Hid (r=false):=jq (by rw[<-HR.out];exact Np.aS λq=>by have:=q.set;rw[fC] at this;cases this);clear fC;go_wp2_with fail;go_ret;exact⟨ae HX.out.symm,am.out⟩
 | true=>
  have ky:=jq fC;clear fC;by_cases h6:ty=6
  ·by_cases nw:s.data.toList = [46]
   ·have IA:(!s.toList == [46])=false:=by rw[dQ,nw];rfl
    have Am:(ty != 6)=false:=by simpa using h6
    have FK:=jq nw;have H6:=jq h6;clear nw h6;by_cases bK:n<1
    ·have HX:Hid (r=false):=jq (by rw[<-HR.out];exact Np.aS λq=>by have:=q.few;rw[HN.out] at this;omega);have g1:decide ((n:Int)<1)=true:=by simp;omega
     clear bK;go_wp2_with fail;go_ret;exact⟨ae HX.out.symm,am.out⟩
    ·have g1:decide ((n:Int)<1)=false:=by simp;omega
     by_cases yv:8<n
     ·have HX:Hid (r=false):=jq (by rw[<-HR.out];exact Np.aS λq=>by have:=q.few;rw[HN.out] at this;omega);have g2:decide ((8:Int)<(n:Int))=true:=by simp;omega
      clear bK yv;go_wp2_with fail;go_ret;exact⟨ae HX.out.symm,am.out⟩
     ·have g2:decide ((8:Int)<(n:Int))=false:=by simp;omega
      have cw:Hid (1<=n/\n<=8):=jq (by omega);clear bK yv;have eg:∀ args w,(callFunc 249 args).run prog w = .ok (.enter 249 args) w:=enters_of func249 (by kernel_rfl) rfl;have SB:=jq eg;clear eg;go_wp2_with fail;have dy:=HH.out.keep kj am.out;rw[<-HN.out] at dy |-;refine (Vg (R:=iM) kj 249 SB.out #[] (λn=>!Np.lO n) _ hints w1 w.heap.size (by omega) dy (λW x e0 _ _ _ hx=>by
       have hx : [e0] = [Value.int .i64 x]:=hx
       cases hx
       exact aoK x W)).mono ?_
      rintro e w2 ⟨rfl,ac⟩;have ah:=aIX am ac;clear ac;have HQ:Hid ((hints.any λn=>!Np.lO n)=!r):=jq (by
       rw[<-HR.out]
       cases ha:hints.any λn=>!Np.lO n with
       | true=>
        obtain⟨x,hx,hb⟩:=List.any_eq_true.1 ha;rw[Np.aS λq=>?_];rfl
        have:=q.each x hx
        simp[Np.lO] at hb;omega
       | false=>
        rw[Np.cu];rfl;refine⟨ky.out,H6.out,FK.out,by have:=cw.out;rw[HN.out];exact this,λx hx=>?_⟩
        have:=List.any_eq_false.1 ha x hx
        simpa [Np.lO] using this)
      rw[HQ.out];clear HQ
      cases r
      all_goals
       go_wp2_with fail;go_ret;exact⟨rfl,ah.out⟩
   ·have HX:Hid (r=false):=jq (by rw[<-HR.out];exact Np.aS λq=>nw q.name);have IA:(!s.toList == [46])=true:=by rw[dQ];simpa using nw
    have Am:(ty != 6)=false:=by simpa using h6
    clear nw h6;go_wp2_with fail;go_ret;exact⟨ae HX.out.symm,am.out⟩
  ·have HX:Hid (r=false):=jq (by rw[<-HR.out];exact Np.aS λq=>h6 q.type);have Am:(ty != 6)=true:=by simpa using h6
   clear h6;go_wp2_with fail;go_ret;exact⟨ae HX.out.symm,am.out⟩
theorem amZ(s:ByteArray)(hs:s.size<=140737488355328)(ty life:Int)(dv:Value)(d:List Np.Datum)(hv:Value)(hints:List Int)(w:World)(hd:SlR cA 3 w w.heap.size dv d)(hh:SlR iM 1 w w.heap.size hv hints) :
 Calls prog 88 #[.agg #[.string s,.int .i64 ty,.int .i64 life,dv],hv] w (aOJ w.heap.size w (.bool (Np.yes (Np.VRoot ⟨s.data.toList,ty,life,d⟩ hints)))):=by
 obtain⟨r,hr⟩:=aJZ (Np.yes (Np.VRoot ⟨s.data.toList,ty,life,d⟩ hints));rw[hr];have HR:=jq hr;have HD:=jq hd;have HH:=jq hh;obtain⟨A,c,rfl,be,bC⟩:=aj hd;obtain⟨A2,c2,rfl,dV,dJ⟩:=aj hh;clear hr hd hh;have HW:Hid (∀ o,Below w.heap.size w (w.alloc o)):=jq (λo=>(vQ _ w).alloc (bQ _) _);go_enter func88,ntmps88;go_wp2_with fail;obtain⟨w1,ai⟩:=aJZ (w.alloc (.cells #[.string s,.int .i64 ty,.int .i64 life,.slice A d.length c] 26));have c0:w1.cell? ⟨w.heap.size,0,none⟩=some (.string s):=by rw[<-ai];simp[go_sem]
 have c1:w1.cell? ⟨w.heap.size,1,none⟩=some (.int .i64 ty):=by rw[<-ai];simp[go_sem]
 have c2':w1.cell? ⟨w.heap.size,2,none⟩=some (.int .i64 life):=by rw[<-ai];simp[go_sem]
 have c3:w1.cell? ⟨w.heap.size,3,none⟩=some (.slice A d.length c):=by rw[<-ai];simp[go_sem]
 have ba:w1.heap.size=w.heap.size+1:=by rw[<-ai];simp
 have am:Hid (Below w.heap.size w w1):=jq (by rw[<-ai];exact HW.out _);rw[ai];clear ai;obtain⟨n,hn⟩:=aJZ hints.length;have HN:=jq hn;rw[hn] at HH dV dJ |-;clear hn;go_loopw [5] (λi wr=>∃ k:Nat,k<=n/\i = .int .i64 k/\wr=w1/\Hid (∀ j x,j<k->hints[j]?=some x->1<=x/\x<=1000000)) (λi _=>n - (intOf i).toNat)
 case atStart=>exact⟨0,jQ _,rfl,rfl,jq (λj x hj=>by omega)⟩
 case round=>
  obtain⟨k,hk,rfl,rfl,HA⟩:=hrel;by_cases aa:k<n
  ·obtain⟨x,ab⟩:∃ x,hints[k]?=some x:=⟨_,aQ (by rw[HN.out];exact aa)⟩;obtain⟨b,o,rfl,bj,f0⟩:=YR (HH.out.keep kj am.out) ab;have dR:Hid (1<=x/\x<=1000000->∀ j y,j<k+1->hints[j]?=some y->1<=y/\y<=1000000):=jq (λh j y hj hy=>by
    by_cases e:j=k
    ·subst e;rw[ab] at hy;cases hy;exact h
    ·exact HA.out j y (by omega) hy)
   have HF:Hid (¬ (1<=x/\x<=1000000)->r=false):=jq (λh=>by rw[<-HR.out];exact Np.aS λq=>h (q.each x (gQ ab)));have bF:(0:Int)<=(k:Int):=by omega
   have bL:(k:Int)<(n:Int):=by omega
   clear ab;by_cases h1:x<1
   ·have HX:=jq (HF.out (by omega));have g1:decide (x<1)=true:=by simpa using h1
    clear h1;go_wp2_with fail;go_ret;exact⟨ae HX.out.symm,am.out⟩
   ·have g1:decide (x<1)=false:=by simpa using h1
    by_cases h2:1000000<x
    ·have HX:=jq (HF.out (by omega));have g2:decide (1000000<x)=true:=by simpa using h2
     clear h1 h2;go_wp2_with fail;go_ret;exact⟨ae HX.out.symm,am.out⟩
    ·have HX:=jq (dR.out (by omega));have g2:decide (1000000<x)=false:=by simpa using h2
     clear h1 h2;go_wp2_with fail;go_roundw
     case rel=>exact⟨k+1,by omega,by go_num,by first | rfl | trivial,HX⟩
     case measure=>simp[intOf] <;> omega
  ·have nX:Hid (∀ x∈hints,1<=x/\x<=1000000):=jq (λx hx=>by
    obtain⟨j,hj,rfl⟩:=nQ.1 hx;exact HA.out j _ (by have:=HN.out;omega) (aQ hj))
   go_wp2_with fail;refine (JV s hs ty life _ d _ (HD.out.later bD bP am.out)).mono ?_;rintro e w2 ⟨rfl,ac⟩;have aN:=ac.size;replace c0:=aIZ ac c0;replace c1:=aIZ ac c1;have ah:=aIX am ac;clear ac c2' c3
   cases fC:Np.dC ⟨s.data.toList,ty,life,d⟩ with
   | false=>
    have HX:Hid (r=false):=jq (by rw[<-HR.out];exact Np.aS λq=>by have:=q.set;rw[fC] at this;cases this);clear fC;go_wp2_with fail;go_ret;exact⟨ae HX.out.symm,ah.out⟩
   | true=>
    have ky:=jq fC;clear fC;by_cases h6:ty=6
    ·by_cases nw:s.data.toList = [46]
     ·have IA:(s.toList == [46])=true:=by rw[dQ,nw];rfl
      have Am:(ty == 6)=true:=by simpa using h6
      have FK:=jq nw;have H6:=jq h6;clear nw h6;by_cases bK:1<=n
      ·have g1:decide ((1:Int)<=(n:Int))=true:=by simp;omega
       by_cases yv:n<=8
       ·have HX:Hid (r=true):=jq (by rw[<-HR.out];exact Np.cu ⟨ky.out,H6.out,FK.out,by rw[HN.out];exact⟨bK,yv⟩,nX.out⟩);have g2:decide ((n:Int)<=8)=true:=by simp;omega
        clear bK yv;go_wp2_with fail;go_ret;exact⟨ae HX.out.symm,ah.out⟩
       ·have HX:Hid (r=false):=jq (by rw[<-HR.out];exact Np.aS λq=>by have:=q.few;rw[HN.out] at this;omega);have g2:decide ((n:Int)<=8)=false:=by simp;omega
        clear bK yv;go_wp2_with fail;go_ret;exact⟨ae HX.out.symm,ah.out⟩
      ·have HX:Hid (r=false):=jq (by rw[<-HR.out];exact Np.aS λq=>by have:=q.few;rw[HN.out] at this;omega);have g1:decide ((1:Int)<=(n:Int))=false:=by simp;omega
       clear bK;go_wp2_with fail;go_ret;exact⟨ae HX.out.symm,ah.out⟩
     ·have HX:Hid (r=false):=jq (by rw[<-HR.out];exact Np.aS λq=>nw q.name);have IA:(s.toList == [46])=false:=by rw[dQ];simpa using nw
      have Am:(ty == 6)=true:=by simpa using h6
      clear nw h6;go_wp2_with fail;go_ret;exact⟨ae HX.out.symm,ah.out⟩
    ·have HX:Hid (r=false):=jq (by rw[<-HR.out];exact Np.aS λq=>h6 q.type);have Am:(ty == 6)=false:=by simpa using h6
     clear h6;go_wp2_with fail;go_ret;exact⟨ae HX.out.symm,ah.out⟩
end
section
open Go.RowKit Go.MapKept
def uZ(W:World)(B:Nat)(e:List Value)(p:Np.Placed):Prop:=∃ (s:ByteArray) (v:Value),s.data.toList=p.zone.apex/\s.size<=140737488355328/\SlR cV 5 W B v p.zone.sets/\e = [.int .i64 p.host,.string s,v]
theorem EX:dH uZ:=λ_ _ _ _ _ ⟨s,v,h1,h2,h3,h5⟩ hb=>⟨s,v,h1,h2,h3.keep bU hb,h5⟩
theorem JX:eh uZ:=λ_ _ _ _ _ ⟨s,v,h1,h2,h3,h5⟩ hb=>⟨s,v,h1,h2,h3.more fD hb,h5⟩
theorem abX{w:World}{B n c:Nat}{A:Option Addr}{xs:List Np.Placed}(h:SlR uZ 3 w B (.slice A n c) xs){k:Nat}{x:Np.Placed}(hx:xs[k]?=some x):∃ (b o:Nat) (s:ByteArray) (v:Value),A=some ⟨b,o,none⟩/\b<B/\s.data.toList=x.zone.apex/\s.size<=140737488355328/\SlR cV 5 w B v x.zone.sets/\w.cell? ⟨b,o+k * 3,none⟩=some (.int .i64 x.host)/\w.cell? ⟨b,o+k * 3+1,none⟩=some (.string s)/\w.cell? ⟨b,o+k * 3+2,none⟩=some v:=by
 obtain⟨A',c',hA',_,_,aY⟩:=h
 cases hA'
 obtain⟨b,o,e,hA,bB,hlen,hce,s,v,h1,h2,h3,he⟩:=aY k _ hx;subst he;exact⟨b,o,s,v,hA,bB,h1,h2,h3,hce 0 _ rfl,hce 1 _ rfl,hce 2 _ rfl⟩
def kA(r n:Nat)(w:World):Prop:=∃ es c kvs,w.heap[r]?=some (.map es c)/\es.toList.map (λe=>(e.key,e.val))=(kvs:List (List UInt8×Value)).map (λp=>(aC p.1,p.2))/\es.size<=n
theorem kA.lt{r n:Nat}{w:World}(h:kA r n w):r<w.heap.size:=by
 obtain⟨es,c,kvs,h,_⟩:=h;exact (eQ.1 h).1
theorem kA.keep{r k:Nat}{w w':World}{n:Nat}(h:kA r k w)(hb:Below n w w')(hn:r<n):kA r k w':=by
 obtain⟨es,c,kvs,h,h2⟩:=h;exact⟨es,c,kvs,(hb.block r hn).trans h,h2⟩
theorem kA.turned{r k r':Nat}{w w':World}(h:kA r k w)(ht:Turned r' w w')(hne:r≠r'):kA r k w':=by
 obtain⟨es,c,kvs,h,h2⟩:=h;exact⟨es,c,kvs,(ht.block r hne).trans h,h2⟩
theorem kA.made(w:World):kA w.heap.size 0 (w.alloc (.map #[] 0)):=⟨#[],0,[],heap_alloc_new _ _,rfl,bQ _⟩
theorem VR(x:List UInt8):∀ (es:List MapEntry) (kvs:List (List UInt8×Value)) (i:Nat),es.map (λe=>(e.key,e.val))=kvs.map (λp=>(aC p.1,p.2))->
 (∃ j e,es[j]?=some e/\e.key=aC x/\Instr.findNow .string (aC x) es i=some (some (i+j,e.val)))\/Instr.findNow .string (aC x) es i=some none:=by
 intro es
 induction es with
 | nil=>
  intro kvs i h;exact .inr rfl
 | cons e es ih=>
  intro kvs i h
  cases kvs with
  | nil=>simp at h
  | cons p kvs=>
   obtain⟨y,u⟩:=p;simp only[List.map_cons,List.cons.injEq,Prod.mk.injEq] at h;obtain⟨⟨h1,h2⟩,h3⟩:=h;have hs:Instr.sameNow .string (aC x) e.key=some (x == y):=by rw[h1];simp only[Instr.sameNow];rw[Rc]
   by_cases bZ:x=y
   ·subst bZ;have hb:(x == x)=true:=by simp
    rw[hb] at hs;exact .inl ⟨0,e,rfl,h1,by simp only[Instr.findNow,hs];rfl⟩
   ·have hb:(x == y)=false:=by simpa using bZ
    rw[hb] at hs;rcases ih kvs (i+1) h3 with ⟨j,e',j1,j2,j3⟩ | h4
    ·exact .inl ⟨j+1,e',by simpa using j1,j2,by simp only[Instr.findNow,hs];rw[j3,show i+1+j=i+(j+1) by omega]⟩
    ·exact .inr (by simp only[Instr.findNow,hs];exact h4)
theorem Y5(a:ByteArray)(P:Program)(w:World):(Instr.keyThatStays (.string a) (.string a)).run P w = .ok (.string a) w:=by
 have h1:(a == a)=true:=by
  show (a.data == a.data)=true;simp
 have:Instr.sameBits 10000 (.string a) (.string a)=true:=by simp[Instr.sameBits,h1]
 simp[Instr.keyThatStays,this]
section
variable {P:Program} {ops:Array Oper} {rest:List Oper} {o:Oper} {a:Act} {Q:Exit->Act->World->Prop}
theorem aFJ(w:World)(hg:o.guard=none)(m x v:Operand)(t:TypeId)(iB:o.op=Op.mapUpdate t m x v)(kt et:TypeId)(ht:P.underlying t=some (.map kt et))(hk:P.underlying kt=some .string)
 (r n:Nat) (hm:a.eval m = .map (some r)) (hr:kA r n w) (key:List UInt8) (hx:a.eval x=aC key) (val:Value) (hv:a.eval v=val)
 (hK:∀ w',kA r (n+1) w'->Turned r w w'->wpList P ops Q rest (a.put o.dst undef) w'):wpList P ops Q (o::rest) a w:=by
 obtain⟨es,c,kvs,hr,he,hn⟩:=hr;refine wpList_plain hg λK' hK'=>?_;have hc:(Instr.checkKey false 10000 kt (aC key)).run P w = .ok () w:=MapKept.run_checkKey (k:=aC key) hk (by simp[MapKept.IsKey]) false 9999;have hl:r<w.heap.size:=(eQ.1 hr).1;rcases VR key es.toList kvs 0 he with ⟨j,e,j1,j2,hf⟩ | hf
 ·have tE:(Instr.keyThatStays (((es[j]?).map (·.key)).getD (aC key)) (aC key)).run P w = .ok (aC key) w:=by
   rw[Array.getElem?_toList] at j1;rw[j1];simp only[Option.map_some,Option.getD_some];rw[j2];exact Y5 _ P w
  rw[Nat.zero_add] at hf;have dh:(Instr.mapUpdate t (.map (some r)) (aC key) val).run P w = .ok () { w with heap:=w.heap.setIfInBounds r (.map (es.modify j λe=>{ e with key:=aC key,val:=val }) c) }:=by
   simp[Instr.mapUpdate,run_underlying ht,MapKept.run_getObj_map hr,hc,MapKept.run_findKey hk hf,tE,MapKept.run_setObj_map _ hr,Result.andThen]
  unfold Oper.wp;simp[execOp,iB,hm,hx,hv,dh,Result.andThen];refine hK' _ _ (hK _ ⟨es.modify j λe=>{ e with key:=aC key,val:=val },c,kvs.modify j λ_=>(key,val),by simp[hl],?_,by simp;omega⟩ ⟨rfl,rfl,rfl,by simp,λi hi=>by simp[Ne.symm hi]⟩);apply List.ext_getElem?;intro i;have hi:=Qd (λl=>l[i]?) he;simp only[List.getElem?_map] at hi |-;rw[Array.toList_modify,List.getElem?_modify,List.getElem?_modify];by_cases dE:j=i
  ·subst dE;simp only[if_true]
   cases h1:es.toList[j]? <;> cases h2:kvs[j]? <;> simp[h1,h2] at hi |-
  ·simp only[Qc dE];simpa using hi
 ·have dh:(Instr.mapUpdate t (.map (some r)) (aC key) val).run P w = .ok () { w with heap:=w.heap.setIfInBounds r (.map (es.push { key:=aC key,val:=val,born:=c }) (c+1)) }:=by
   simp[Instr.mapUpdate,run_underlying ht,MapKept.run_getObj_map hr,hc,MapKept.run_findKey hk hf,MapKept.run_setObj_map _ hr,Result.andThen]
  unfold Oper.wp;simp[execOp,iB,hm,hx,hv,dh,Result.andThen];exact hK' _ _ (hK _ ⟨es.push { key:=aC key,val:=val,born:=c },c+1,kvs ++ [(key,val)],by simp[hl],by simp[he],by simp;omega⟩ ⟨rfl,rfl,rfl,by simp,λi hi=>by simp[Ne.symm hi]⟩)
end
theorem PG{α:Type}[BEq α][LawfulBEq α][DecidableEq α](l:List α)(x:α):((l.map λy=>(y,Value.bool true)).lookup x).getD (.bool false) = .bool (decide (x∈l)):=by
 induction l with
 | nil=>simp
 | cons y l ih=>
  rw[List.map_cons,List.lookup_cons];by_cases h:x=y
  ·subst h;simp
  ·have hb:(x == y)=false:=by simpa using h
   rw[hb];simp only[ih,List.mem_cons,h,false_or]
theorem PF{α:Type}[BEq α][LawfulBEq α](l:List α)(x:α)(h:x∉l):(l.map λy=>(y,Value.bool true)).lookup x=none:=by
 induction l with
 | nil=>rfl
 | cons y l ih=>
  have hb:(x == y)=false:=by
   rw[beq_eq_false_iff_ne];intro e;exact h (by simp[e])
  rw[List.map_cons,List.lookup_cons,hb];exact ih (λhm=>h (mQ _ hm))
def Np.jn(p:Np.Placed):Int×List UInt8:=(p.host,p.zone.apex)
def Np.C8(n:Nat)(p:Np.Placed):Prop:=(0<=p.host/\p.host<n)/\Np.VZone p.zone
def Np.pr(n:Nat)(l:List Np.Placed):Prop:=(∀ p∈l,Np.C8 n p)/\l.Pairwise λp q=>¬ (p.host=q.host/\p.zone.apex=q.zone.apex)
theorem aBZ{n k:Nat}{l:List Np.Placed}{x:Np.Placed}(hx:l[k]?=some x)(h:Np.pr n l):Np.C8 n x/\Np.jn x∉(l.take k).map Np.jn:=by
 refine⟨h.1 x (gQ hx),λhm=>?_⟩;obtain⟨y,hy,he⟩:=List.mem_map.1 hm;have h1:(l.take k ++ [x]).Pairwise λp q=>¬ (p.host=q.host/\p.zone.apex=q.zone.apex):=by
  obtain⟨hl,he⟩:=cQ.1 hx
  have:l.take k ++ [x]=l.take (k+1):=by rw[fQ hl,he]
  rw[this];exact h.2.sublist (List.take_sublist _ _)
 have h2:=(List.pairwise_append.1 h1).2.2 y hy x (by simp);unfold Np.jn at he;simp only[Prod.mk.injEq] at he;exact h2 he
theorem aBJ{n k:Nat}{l:List Np.Placed}{x:Np.Placed}(hx:l[k]?=some x)(h:Np.pr n (l.take k))(h1:Np.C8 n x)(h2:Np.jn x∉(l.take k).map Np.jn):Np.pr n (l.take (k+1)):=by
 obtain⟨hl,he⟩:=cQ.1 hx;have ht:l.take (k+1)=l.take k ++ [x]:=by rw[fQ hl,he]
 rw[ht];refine⟨λp hp=>?_,List.pairwise_append.2 ⟨h.2,by simp,λy hy z hz Pd=>?_⟩⟩
 ·rcases List.mem_append.1 hp with hp | hp
  ·exact h.1 p hp
  ·rw[List.mem_singleton] at hp;subst hp;exact h1
 ·rw[List.mem_singleton] at hz;subst hz;exact h2 (List.mem_map.2 ⟨y,hy,by unfold Np.jn;simp[Pd.1,Pd.2]⟩)
theorem aAJ(hv:Value)(n:Nat)(hn:∃ A c,hv = .slice A n c)(zv:Value)(l:List Np.Placed)(sv:Value)(ty life:Int)(dv dx:Value)(s:ByteArray)(aR:sv = .string s)(hl:l.length<=500)(hz:∀ p∈l,p.zone.sets.length<=20000)(w:World)(hR:iv w w.heap.size)(hd:SlR uZ 3 w w.heap.size zv l) :
 Calls prog 181 #[.agg #[hv,zv,sv,.int .i64 ty,.int .i64 life,dv,dx]] w λe w'=>e = .returned (.bool (Np.yes (Np.pr n l)))/\Below w.heap.size w w':=by
 obtain⟨r,hr⟩:=aJZ (Np.yes (Np.pr n l));rw[hr];have HR:=jq hr;have HD:=jq hd;have jw:=jq hR;have HZ:=jq hz;obtain⟨Ah,ch,rfl⟩:=hn;obtain⟨A,c,rfl,be,bC⟩:=aj hd;subst aR;clear hr hd hR hz;have aUX:∀ (w:World),(Instr.makeMap 299 none).run prog w = .ok (.map (some w.heap.size)) (w.alloc (.map #[] 0)):=λw=>by
  simp[Instr.makeMap,Result.andThen]
 have aUY:∀ (w:World),(Instr.makeMap 111 none).run prog w = .ok (.map (some w.heap.size)) (w.alloc (.map #[] 0)):=λw=>by
  simp[Instr.makeMap,Result.andThen]
 have eV:decide (4000<(l.length:Int))=false:=aKX;go_enter func181,ntmps181;go_wp2_with fail;obtain⟨w1,ai⟩:=aJZ (((w.alloc (.cells #[.slice Ah n ch,.slice A l.length c,.string s,.int .i64 ty,.int .i64 life,dv,dx] 68)).alloc (.map #[] 0)).alloc (.map #[] 0));obtain⟨X,hX⟩:=aJZ w.heap.size;obtain⟨X1,mD⟩:=aJZ (X+1);obtain⟨X2,DM⟩:=aJZ (X1+1);have uK:Hid (jU X1 [] w1):=jq (by
  rw[<-ai,<-mD,<-hX];have h0:=jU.made (w.alloc (.cells #[.slice Ah n ch,.slice A l.length c,.string s,.int .i64 ty,.int .i64 life,dv,dx] 68));rw[show w.heap.size+1=(w.alloc (.cells #[.slice Ah n ch,.slice A l.length c,.string s,.int .i64 ty,.int .i64 life,dv,dx] 68)).heap.size by simp];exact h0.keep ((vQ _ _).alloc (bQ _) _) (by simp))
 have Tp:Hid (kA X2 0 w1):=jq (by
  rw[<-ai,<-DM,<-mD,<-hX];have h0:=kA.made ((w.alloc (.cells #[.slice Ah n ch,.slice A l.length c,.string s,.int .i64 ty,.int .i64 life,dv,dx] 68)).alloc (.map #[] 0));simpa using h0)
 have am:Hid (Below X w w1):=jq (by rw[<-ai,<-hX];exact (((vQ _ _).alloc (bQ _) _).alloc (by simp) _).alloc (by simp;omega) _);have CH:Hid (w1.cell? ⟨X,0,none⟩=some (.slice Ah n ch)):=jq (by rw[<-ai,<-hX];simp[go_sem]);have ba:X2<w1.heap.size:=by rw[<-ai,<-DM,<-mD,<-hX];simp
 rw[ai,hX,mD,DM];have hlX:X<X1:=by omega
 have aSJ:X1<X2:=by omega
 rw[hX] at HD jw;have iK:=jq hX;clear ai mD DM;go_loopw [17] (λi wr=>∃ k:Nat,k<=l.length/\i = .int .i64 k/\Hid (Below X w wr)/\X2<wr.heap.size/\Hid (wr.cell? ⟨X,0,none⟩=some (.slice Ah n ch))/\Hid (jU X1 (((l.take k).map Np.jn).map λy=>(y,Value.bool true)) wr)/\Hid (kA X2 k wr)/\Hid (Np.pr n (l.take k))) (λi _=>l.length - (intOf i).toNat)
 case atStart=>exact⟨0,jQ _,rfl,am,ba,CH,uK,Tp,jq ⟨λp hp=>by simp at hp,by simp⟩⟩
 case round=>
  obtain⟨k,hk,rfl,HB,bR,HC,HM,HN,HV⟩:=hrel;have Ir:=HC.out;by_cases aa:k<l.length
  ·obtain⟨x,ab⟩:∃ x,l[k]?=some x:=⟨_,aQ aa⟩;obtain⟨b,o,sn,vz,rfl,bj,ay,cC,eO,f0,f1,f2⟩:=abX (HD.out.keep EX HB.out) ab;have jO:=jq (aBZ (n:=n) (k:=k) ab);have ck:=jq (λh1 h2=>aBJ ab HV.out h1 h2);have HF:Hid (¬ Np.C8 n x->r=false):=jq (λh=>by rw[<-HR.out];exact Np.aS λq=>h (jO.out q).1);have uD:Hid (Np.jn x∈(l.take k).map Np.jn->r=false):=jq (λh=>by rw[<-HR.out];exact Np.aS λq=>(jO.out q).2 h);have HT:Hid ((l.take (k+1)).map Np.jn=(l.take k).map Np.jn ++ [Np.jn x]):=jq (by
    obtain⟨hl,he⟩:=cQ.1 ab;rw[fQ hl,he,List.map_append];rfl)
   have zO:Hid (x.zone.sets.length<=20000):=jq (HZ.out x (gQ ab));have pi:Hid (Np.jn x=(x.host,sn.data.toList)):=jq (by unfold Np.jn;rw[ay]);obtain⟨Az,cz,rfl,_,_⟩:=aj eO;obtain⟨nz,jk⟩:=aJZ x.zone.sets.length;have aW:=jq ay;rw[jk] at f2;have jT:Hid (SlR cV 5 wr wr.heap.size (.slice Az nz cz) x.zone.sets):=jq (by rw[<-jk];exact eO.more fD (by have:=HB.out.size;omega));obtain⟨w2,ag⟩:=aJZ (wr.alloc (.cells #[.int .i64 x.host,.string sn,.slice Az nz cz] 72));obtain⟨w3,ct⟩:=aJZ (w2.alloc (.cells #[.int .i64 x.host,.string sn] 301));have aN:w2.heap.size=wr.heap.size+1:=by rw[<-ag];simp
   have gV:w3.heap.size=w2.heap.size+1:=by rw[<-ct];simp
   have ac:Below wr.heap.size wr w2:=by rw[<-ag];exact (vQ _ _).alloc (bQ _) _
   have ak:Below wr.heap.size wr w3:=by rw[<-ct];exact ac.alloc (by omega) _
   have p0:w2.cell? ⟨wr.heap.size,0,none⟩=some (.int .i64 x.host):=by rw[<-ag];simp[go_sem]
   have p1:w2.cell? ⟨wr.heap.size,1,none⟩=some (.string sn):=by rw[<-ag];simp[go_sem]
   have q0:w3.cell? ⟨wr.heap.size,0,none⟩=some (.int .i64 x.host):=by rw[<-ct,<-p0];simp[go_sem,aN]
   have q1:w3.cell? ⟨wr.heap.size,1,none⟩=some (.string sn):=by rw[<-ct,<-p1];simp[go_sem,aN]
   have q2:w3.cell? ⟨wr.heap.size,2,none⟩=some (.slice Az nz cz):=by rw[<-ct,<-ag];simp[go_sem]
   have r0:w3.cell? ⟨wr.heap.size+1,0,none⟩=some (.int .i64 x.host):=by rw[<-ct,<-aN];simp[go_sem]
   have r1:w3.cell? ⟨wr.heap.size+1,1,none⟩=some (.string sn):=by rw[<-ct,<-aN];simp[go_sem]
   have NN:w3.cell? ⟨X,0,none⟩=some (.slice Ah n ch):=aIZ ak Ir;have aA:=aIX HB ak;have qi:Hid (jU X1 (((l.take k).map Np.jn).map λy=>(y,Value.bool true)) w3):=jq (HM.out.keep ak (by omega));have CW:Hid (kA X2 k w3):=jq (HN.out.keep ak bR);have xN:Hid (SlR cV 5 w3 w3.heap.size (.slice Az nz cz) x.zone.sets):=jq ((jT.out.keep bU ak).more fD ak.size);have sY:Hid (X2<w3.heap.size):=jq (by omega);have iT:(Instr.lookup 299 (.map (some X1)) (.agg #[.int .i64 x.host,.string sn]) false).run prog w3 = .ok (.bool (decide ((x.host,sn.data.toList)∈(l.take k).map Np.jn))) w3:=by
    have:=aqZ w3 299 4 underlying299 X1 _ qi.out (x.host,sn.data.toList) (.bool false) (by kernel_rfl)
    rw[PG] at this;exact this
   rw[<-pi.out] at iT;clear ab ay eO ac ak jk HM HN jT;by_cases g1:x.host<0
   ·have d1:decide (x.host<0)=true:=uQ g1;have HX:Hid (r=false):=jq (HF.out λh=>by have:=h.1;omega);clear g1;go_wp2_with fail;go_ret;exact⟨ae HX.out.symm,by rw[iK.out];exact aA.out⟩
   ·have d1:decide (x.host<0)=false:=tQ g1;by_cases g2:(n:Int)<=x.host
    ·have d2:decide ((n:Int)<=x.host)=true:=uQ g2;have HX:Hid (r=false):=jq (HF.out λh=>by have:=h.1;omega);clear g1 g2;go_wp2_with fail;go_ret;exact⟨ae HX.out.symm,by rw[iK.out];exact aA.out⟩
    ·have d2:decide ((n:Int)<=x.host)=false:=tQ g2;have HG:Hid (0<=x.host/\x.host<n):=jq (by omega);clear g1 g2;by_cases g3:Np.jn x∈(l.take k).map Np.jn
     ·rw[uQ g3] at iT;have HX:Hid (r=false):=jq (uD.out g3);clear g3;go_wp2_with fail;go_ret;exact⟨ae HX.out.symm,by rw[iK.out];exact aA.out⟩
     ·rw[tQ g3] at iT;have mp:=jq g3;clear g3;go_wp2_with fail;refine (RO sn cC _ x.zone.sets zO.out w3 ((jw.out.keep aA.out).more (by have:=aA.out.size;omega)) xN.out).mono ?_;rintro e w4 ⟨rfl,ar⟩;have jm:w3.heap.size<=w4.heap.size:=ar.size;have s0:w4.cell? ⟨wr.heap.size,0,none⟩=some (.int .i64 x.host):=aIZ ar q0;have s1:w4.cell? ⟨wr.heap.size,1,none⟩=some (.string sn):=aIZ ar q1;have s2:w4.cell? ⟨wr.heap.size,2,none⟩=some (.slice Az nz cz):=aIZ ar q2;have t0:w4.cell? ⟨wr.heap.size+1,0,none⟩=some (.int .i64 x.host):=aIZ ar r0;have t1:w4.cell? ⟨wr.heap.size+1,1,none⟩=some (.string sn):=aIZ ar r1;have b7:=aIX aA ar;have Gb:Hid (jU X1 (((l.take k).map Np.jn).map λy=>(y,Value.bool true)) w4):=jq (qi.out.keep ar (by omega));have Gg:Hid (kA X2 k w4):=jq (CW.out.keep ar sY.out);have DS:w4.cell? ⟨X,0,none⟩=some (.slice Ah n ch):=aIZ ar NN;have lH:=jq DS;clear ar p0 p1 q0 q1 q2 r0 r1 ag ct f0 f1 f2 iT NN qi CW;obtain⟨rz,eD⟩:=aJZ (Np.yes (Np.VZone ⟨sn.data.toList,x.zone.sets⟩));rw[eD];have iI:=jq eD;clear eD
      cases rz with
      | false=>
       have HX:Hid (r=false):=jq (HF.out λh=>by
        have h1:=h.2;have h2:x.zone=⟨sn.data.toList,x.zone.sets⟩:=by rw[aW.out]
        rw[h2] at h1;have h3:=Np.cu h1;rw[iI.out] at h3
        cases h3)
       go_wp2_with fail;go_ret;exact⟨ae HX.out.symm,by rw[iK.out];exact b7.out⟩
      | true=>
       have uW:Hid (Np.pr n (l.take (k+1))):=jq (ck.out ⟨HG.out,by
        have h2:x.zone=⟨sn.data.toList,x.zone.sets⟩:=by rw[aW.out]
        rw[h2];exact Np.f8.1 iI.out⟩ mp.out)
       have Tv:Hid ((((l.take k).map Np.jn).map λy=>(y,Value.bool true)).lookup (x.host,sn.data.toList)=none):=jq (by rw[<-pi.out];exact PF _ _ mp.out);go_wp2_with (at_mapUpdate;first
        | (refine aFK _ rfl _ _ _ 299 rfl 4 underlying299 X1 _ rfl Gb.out (x.host,sn.data.toList) rfl (.bool true) rfl Tv.out ?_;intro w5 mK l3;have s1':w5.cell? ⟨wr.heap.size,1,none⟩=some (.string sn):=(l3.cell (by dsimp only;omega)).trans s1;have H5:=jq (And.intro mK l3);have Tq:=jq (Gg.out.turned l3 (by omega));clear mK l3 s0 s1 s2 t0 t1 DS)
        | (refine aFJ _ rfl _ _ _ 111 rfl 9 4 underlying111 underlying9 X2 k rfl Tq.out sn.data.toList rfl (.bool true) rfl ?_;intro w6 Oz O3;have H6:=jq (And.intro Oz O3);clear Oz O3))
       go_roundw
       case rel=>
        refine⟨k+1,by omega,by go_num,jq (((b7.out.trans (H5.out.2.below (by omega))).trans (H6.out.2.below (by omega)))),by rw[H6.out.2.size,H5.out.2.size];have:=sY.out;omega,jq ((H6.out.2.cell (by dsimp only;omega)).trans ((H5.out.2.cell (by dsimp only;omega)).trans lH.out)),jq ?_,jq H6.out.1,uW⟩;have h1:=H5.out.1.keep' (w':=w6) (H6.out.2.block _ (by omega));rw[HT.out,List.map_append,pi.out];exact h1
       case measure=>simp[intOf] <;> omega
  ·have Ub:Hid (Np.pr n l):=jq (by have:=HV.out;rwa [kQ (by omega)] at this);obtain⟨es,ce,kvs,hes,_,al⟩:=HN.out;have W6:decide ((es.size:Int)<=500)=true:=aLQ;have lT:(Builtin.len_ #[111] 3 #[.map (some X2)]).run prog wr = .ok (.int .i64 (es.size:Int)) wr:=by
    simp[Builtin.len_,run_underlying underlying111,MapKept.run_getObj_map hes,Result.andThen,goInt]
   obtain⟨m5,mK⟩:=aJZ es.size;rw[mK] at lT W6;clear hes mK;go_wp2_with fail;go_ret;exact⟨ae (by rw[<-HR.out];exact (Np.cu Ub.out).symm),by rw[iK.out];exact HB.out⟩
def oq(W:World)(B:Nat)(e:List Value)(c:Np.Copy):Prop:=∃ (s:ByteArray) (v:Value),s.data.toList=c.zone.apex/\s.size<=140737488355328/\SlR cV 5 W B v c.zone.sets/\e = [.int .i64 c.host,.int .i64 c.frm,.int .i64 c.til,.string s,v]
theorem l7:dH oq:=λ_ _ _ _ _ ⟨s,v,h1,h2,h3,h5⟩ hb=>⟨s,v,h1,h2,h3.keep bU hb,h5⟩
theorem wE:eh oq:=λ_ _ _ _ _ ⟨s,v,h1,h2,h3,h5⟩ hb=>⟨s,v,h1,h2,h3.more fD hb,h5⟩
theorem tn{w:World}{B n c:Nat}{A:Option Addr}{xs:List Np.Copy}(h:SlR oq 5 w B (.slice A n c) xs){k:Nat}{x:Np.Copy}(hx:xs[k]?=some x):∃ (b o:Nat) (s:ByteArray) (v:Value),A=some ⟨b,o,none⟩/\b<B/\s.data.toList=x.zone.apex/\s.size<=140737488355328/\SlR cV 5 w B v x.zone.sets/\w.cell? ⟨b,o+k * 5,none⟩=some (.int .i64 x.host)/\w.cell? ⟨b,o+k * 5+1,none⟩=some (.int .i64 x.frm)/\w.cell? ⟨b,o+k * 5+2,none⟩=some (.int .i64 x.til)/\w.cell? ⟨b,o+k * 5+3,none⟩=some (.string s)/\w.cell? ⟨b,o+k * 5+4,none⟩=some v:=by
 obtain⟨A',c',hA',_,_,aY⟩:=h
 cases hA'
 obtain⟨b,o,e,hA,bB,hlen,hce,s,v,h1,h2,h3,he⟩:=aY k _ hx;subst he;exact⟨b,o,s,v,hA,bB,h1,h2,h3,hce 0 _ rfl,hce 1 _ rfl,hce 2 _ rfl,hce 3 _ rfl,hce 4 _ rfl⟩
theorem UE(h f u:Int)(s:ByteArray)(v:Value)(w:World) :
 Calls prog 125 #[.agg #[.int .i64 h,.int .i64 f,.int .i64 u,.string s,v]] w (aOJ w.heap.size w (.string s)):=by
 have HB:Hid (∀ o,Below w.heap.size w (w.alloc o)):=jq (λo=>(vQ _ w).alloc (bQ _) _);go_enter func125,ntmps125;go_wp2_with fail;go_ret;exact⟨rfl,HB.out _⟩
theorem cm.turned{base r:Nat}{w w':World}{v:Value}{ps:List (List UInt8)}(h:cm base w v ps)(ht:Turned r w w')(hr:r<base):cm base w' v ps:=cX h (λg hg=>ht.block g (by have:=(h.lt g hg).1;omega))
theorem cm.weak{base base':Nat}{w:World}{v:Value}{ps:List (List UInt8)}(h:cm base w v ps)(hb:base'<=base):cm base' w v ps:=by
 refine⟨h.1,?_⟩;rcases h.2 with h2 | ⟨g,cap,cur,h1,h2,h3⟩
 ·exact .inl h2
 ·exact .inr ⟨g,cap,cur,h1,yQ hb h2,h3⟩
def Cu(ks:List (List UInt8)):List (List UInt8×Value):=ks.map λy=>(y,Value.bool true)
theorem Rm(v:Value)(l:List Np.Copy)(bw:l.length<=20000)(w:World)(h:SlR oq 5 w w.heap.size v l) :
 Calls prog 124 #[v,.func (.func 125) #[] #[]] w λe w'=>∃ v',e = .returned v'/\cm w.heap.size w' v' (Np.cF (l.map (·.zone.apex)))/\Below w.heap.size w w':=by
 have HD:=jq h;obtain⟨A,c,rfl,be,bC⟩:=aj h;clear h;have vS:∀ (w:World),(Instr.makeMap 111 none).run prog w = .ok (.map (some w.heap.size)) (w.alloc (.map #[] 0)):=λw=>by
  simp[Instr.makeMap,Result.andThen]
 have fI:Hid (∀ k,(Np.cF ((l.take k).map (·.zone.apex))).length<=20000):=jq (λk=>by
  have h1:=Np.wO ((l.take k).map (·.zone.apex));rw[List.length_map,List.length_take] at h1;omega)
 go_enter func124,ntmps124;go_wp2_with fail;have uK:=jq (dT.made w);have am:Hid (Below w.heap.size w (w.alloc (.map #[] 0))):=jq ((vQ _ w).alloc (bQ _) _);have ba:w.heap.size<(w.alloc (.map #[] 0)).heap.size:=by simp
 generalize w.alloc (.map #[] 0)=w1 at *;go_loopw [6,13] (λvo i wr=>∃ k:Nat,k<=l.length/\i = .int .i64 k/\Hid (Below w.heap.size w wr)/\w.heap.size<wr.heap.size/\Hid (dT w.heap.size (Cu (Np.cF ((l.take k).map (·.zone.apex)))) wr)/\Hid (cm (w.heap.size+1) wr vo (Np.cF ((l.take k).map (·.zone.apex))))) (λ_ i _=>l.length - (intOf i).toNat)
 case atStart=>exact⟨0,jQ _,rfl,am,ba,uK,jq ⟨by simp[Np.cF],.inl ⟨rfl,rfl⟩⟩⟩
 case round=>
  obtain⟨k,hk,rfl,HB,bR,HM,HO⟩:=hrel;by_cases aa:k<l.length
  ·obtain⟨x,ab⟩:∃ x,l[k]?=some x:=⟨_,aQ aa⟩;obtain⟨b,o,sn,vz,rfl,bj,ay,cC,eO,f0,f1,f2,f3,f4⟩:=tn (HD.out.keep l7 HB.out) ab;obtain⟨Az,cz,rfl,_,_⟩:=aj eO;obtain⟨nz,jk⟩:=aJZ x.zone.sets.length;rw[jk] at f4;obtain⟨ks,tE⟩:=aJZ (Np.cF ((l.take k).map (·.zone.apex)));have HT:Hid (Np.cF ((l.take (k+1)).map (·.zone.apex))=Np.kB ks sn.data.toList):=jq (by
    obtain⟨hl,he⟩:=cQ.1 ab;rw[fQ hl,he,List.map_append,<-tE,ay];exact Np.Cv _ _)
   have ku:Hid (ks.length<=20000):=jq (by rw[<-tE];exact fI.out k);rw[tE] at HM HO;obtain⟨w2,ag⟩:=aJZ (wr.alloc (.cells #[.int .i64 x.host,.int .i64 x.frm,.int .i64 x.til,.string sn,.slice Az nz cz] 46));have ac:Below wr.heap.size wr w2:=by rw[<-ag];exact (vQ _ _).alloc (bQ _) _
   have aN:wr.heap.size<w2.heap.size:=by rw[<-ag];simp
   have p0:w2.cell? ⟨wr.heap.size,0,none⟩=some (.int .i64 x.host):=by rw[<-ag];simp[go_sem]
   have p1:w2.cell? ⟨wr.heap.size,1,none⟩=some (.int .i64 x.frm):=by rw[<-ag];simp[go_sem]
   have p2:w2.cell? ⟨wr.heap.size,2,none⟩=some (.int .i64 x.til):=by rw[<-ag];simp[go_sem]
   have p3:w2.cell? ⟨wr.heap.size,3,none⟩=some (.string sn):=by rw[<-ag];simp[go_sem]
   have p4:w2.cell? ⟨wr.heap.size,4,none⟩=some (.slice Az nz cz):=by rw[<-ag];simp[go_sem]
   have ah:=jq ac;have al:=HB.out.size;clear ab ay eO jk tE ac;go_wp2_with fail;refine (UE _ _ _ _ _ _).mono ?_;rintro e w3 ⟨rfl,ak⟩;have aA:=aIX ah ak;have gV:wr.heap.size<w3.heap.size:=by have:=ak.size;omega
   have qi:Hid (dT w.heap.size (Cu ks) w3):=jq (HM.out.keep aA.out bR);have iq:Hid (cm (w.heap.size+1) w3 _ ks):=jq (HO.out.keep aA.out);clear ak ag p0 p1 p2 p3 p4 f0 f1 f2 f3 f4;have kP:=JZ (P:=prog) w3 111 9 4 underlying111 underlying9 w.heap.size _ qi.out sn.data.toList (.bool false) (by kernel_rfl);unfold Cu at kP;rw[PG] at kP;by_cases hin:sn.data.toList∈ks
   ·have iJ:Hid (Np.cF ((l.take (k+1)).map (·.zone.apex))=ks):=jq (by rw[HT.out,Np.GV hin]);rw[uQ hin] at kP;clear hin;go_wp2_with fail;go_roundw
    case rel=>exact⟨k+1,by omega,by go_num,aIX HB aA.out,by omega,jq (by rw[iJ.out];exact qi.out),jq (by rw[iJ.out];exact iq.out)⟩
    case measure=>simp[intOf] <;> omega
   ·have iJ:Hid (Np.cF ((l.take (k+1)).map (·.zone.apex))=ks ++ [sn.data.toList]):=jq (by rw[HT.out,Np.kB,Qc hin]);have mp:Hid ((Cu ks).lookup sn.data.toList=none):=jq (PF _ _ hin);rw[tQ hin] at kP;clear hin;go_wp2_with (first
     | (at_mapUpdate;refine RF _ rfl _ _ _ 111 rfl 9 4 underlying111 underlying9 w.heap.size _ rfl qi.out sn.data.toList rfl (.bool true) rfl mp.out ?_;intro w5 mK l3;have H5:=jq (And.intro mK l3);have lL:Hid (cm (w.heap.size+1) w5 _ ks):=jq (cm.turned iq.out l3 (by omega));have kT:wr.heap.size<w5.heap.size:=(by rw[l3.size];exact gV);clear mK l3)
     | (at_builtin;refine yW _ rfl _ _ rfl (w.heap.size+1) _ ks rfl (lL.out.alloc _) w5.heap.size sn.data.toList (by simp[go_sem]) (by simp[go_sem]) (by have:=ku.out;omega) (by simp;omega) ?_;intro v6 w6 ig aL;have H6:=jq (And.intro ig aL);clear ig aL))
    go_roundw
    case rel=>exact⟨k+1,by omega,by go_num,jq ((((HB.out.trans (aA.out.aKZ)).trans (H5.out.2.below (bQ _))).alloc (by omega) _).trans (H6.out.2.aKZ)),by have:=H6.out.2.size;simp at this;omega,jq (by rw[iJ.out];unfold Cu;rw[List.map_append];exact (H5.out.1.keep ((vQ _ _).alloc (bQ _) _) (by omega)).keep H6.out.2 (by omega)),jq (by rw[iJ.out];exact H6.out.1)⟩
    case measure=>simp[intOf] <;> omega
  ·have HE':Hid (l.take k=l):=jq (kQ (by omega));go_wp2_with fail;go_ret;exact⟨_,rfl,by have:=HO.out.weak (Nat.le_succ _);rw[HE'.out] at this;exact this,HB.out⟩
theorem aBY{w:Np.WorldP} : Np.VWorld w↔(Np.VHosts w.hosts/\Np.pr w.hosts.length w.zones)/\Np.VRoot w.anchor w.hints:=
 ⟨λh=>⟨⟨h.hosts,h.each,h.apart⟩,h.root⟩,λh=>⟨h.1.1,h.2,h.1.2.1,h.1.2.2⟩⟩
theorem aCY(hv:Value)(hs:List Np.Host)(zv:Value)(l:List Np.Placed)(s:ByteArray)(al:s.size<=140737488355328)(ty life:Int)(dv:Value)(d:List Np.Datum)(dx:Value)(hints:List Int)(hl:l.length<=500)(hz:∀ p∈l,p.zone.sets.length<=20000)(w:World)(hR:iv w w.heap.size)
 (hh:SlR lN 3 w w.heap.size hv hs) (hd:SlR uZ 3 w w.heap.size zv l) (hdd:SlR cA 3 w w.heap.size dv d) (iS:SlR iM 1 w w.heap.size dx hints) :
 Calls prog 110 #[.agg #[hv,zv,.string s,.int .i64 ty,.int .i64 life,dv,dx]] w (aOJ w.heap.size w (.bool (Np.yes (Np.VWorld ⟨hs,l,⟨s.data.toList,ty,life,d⟩,hints⟩)))):=by
 obtain⟨r,hr⟩:=aJZ (Np.yes (Np.VWorld ⟨hs,l,⟨s.data.toList,ty,life,d⟩,hints⟩));rw[hr];have HR:Hid (Np.yes ((Np.VHosts hs/\Np.pr hs.length l)/\Np.VRoot ⟨s.data.toList,ty,life,d⟩ hints)=r):=jq (by rw[<-hr];exact (Np.uo (aBY (w:=⟨hs,l,⟨s.data.toList,ty,life,d⟩,hints⟩))).symm);have HH:=jq hh;have HD:=jq hd;have qa:=jq hdd;have qd:=jq iS;have jw:=jq hR;obtain⟨A1,c1,rfl,_,_⟩:=aj hh;obtain⟨A2,c2,rfl,_,_⟩:=aj hd;obtain⟨A3,c3,rfl,_,_⟩:=aj hdd;obtain⟨A4,c4,rfl,_,_⟩:=aj iS;clear hr hd hR hh hdd iS;obtain⟨W1,an⟩:=aJZ (w.alloc (.cells #[.slice A1 hs.length c1,.slice A2 l.length c2,.string s,.int .i64 ty,.int .i64 life,.slice A3 d.length c3,.slice A4 hints.length c4] 68));have aB:Below w.heap.size w W1:=by rw[<-an];exact (vQ _ _).alloc (bQ _) _
 have jF:W1.heap.size=w.heap.size+1:=by rw[<-an];simp
 obtain⟨n1,bK⟩:=aJZ hs.length;obtain⟨n2,bY⟩:=aJZ l.length;obtain⟨n3,dF⟩:=aJZ d.length;obtain⟨n4,dY⟩:=aJZ hints.length;rw[bK,bY,dF,dY] at an;rw[bK] at HH HR;rw[bY] at HD;rw[dF] at qa;rw[dY] at qd;rw[bK,bY,dF,dY];have k0:W1.cell? ⟨w.heap.size,0,none⟩=some (.slice A1 n1 c1):=by rw[<-an];simp[go_sem]
 have k1:W1.cell? ⟨w.heap.size,1,none⟩=some (.slice A2 n2 c2):=by rw[<-an];simp[go_sem]
 have k2:W1.cell? ⟨w.heap.size,2,none⟩=some (.string s):=by rw[<-an];simp[go_sem]
 have k3:W1.cell? ⟨w.heap.size,3,none⟩=some (.int .i64 ty):=by rw[<-an];simp[go_sem]
 have k4:W1.cell? ⟨w.heap.size,4,none⟩=some (.int .i64 life):=by rw[<-an];simp[go_sem]
 have k5:W1.cell? ⟨w.heap.size,5,none⟩=some (.slice A3 n3 c3):=by rw[<-an];simp[go_sem]
 have k6:W1.cell? ⟨w.heap.size,6,none⟩=some (.slice A4 n4 c4):=by rw[<-an];simp[go_sem]
 have aO:=jq aB;have HN:=jq (And.intro bK (And.intro bY (And.intro dF dY)));clear aB bK bY dF dY;go_enter func110,ntmps110;go_wp2_with fail;refine (aAX _ hs _ (HH.out.later nR wH aO.out)).mono ?_;rintro e w2 ⟨rfl,ac⟩;replace k0:=aIZ ac k0;replace k1:=aIZ ac k1;replace k2:=aIZ ac k2;replace k3:=aIZ ac k3;replace k4:=aIZ ac k4;replace k5:=aIZ ac k5;replace k6:=aIZ ac k6;have aN:=ac.size;have ah:=aIX aO ac;clear ac an;obtain⟨b1,aq⟩:=aJZ (Np.yes (Np.VHosts hs));rw[aq];have sZ:=jq aq;clear aq
 cases b1 with
 | false=>
  have HX:Hid (r=false):=jq (by rw[<-HR.out];exact Np.aS λq=>by have:=Np.cu q.1.1;rw[sZ.out] at this;cases this);go_wp2_with fail;go_ret;exact⟨ae HX.out.symm,ah.out⟩
 | true=>
  go_wp2_with fail;refine (aAJ _ n1 ⟨_,_,rfl⟩ _ l _ ty life _ _ s rfl hl hz _ ((jw.out.keep ah.out).more ah.out.size) (HD.out.later EX JX ah.out)).mono ?_;rintro e w3 ⟨rfl,ak⟩;replace k0:=aIZ ak k0;replace k1:=aIZ ak k1;replace k2:=aIZ ak k2;replace k3:=aIZ ak k3;replace k4:=aIZ ak k4;replace k5:=aIZ ak k5;replace k6:=aIZ ak k6;have gV:=ak.size;have aA:=aIX ah ak;clear ak;obtain⟨b2,ac⟩:=aJZ (Np.yes (Np.pr n1 l));rw[ac];have zM:=jq ac;clear ac
  cases b2 with
  | false=>
   have HX:Hid (r=false):=jq (by rw[<-HR.out];exact Np.aS λq=>by have:=Np.cu q.1.2;rw[zM.out] at this;cases this);go_wp2_with fail;go_ret;exact⟨ae HX.out.symm,aA.out⟩
  | true=>
   go_wp2_with fail;refine (aAY s al ty life _ d _ hints _ ((jw.out.keep aA.out).more aA.out.size) (qa.out.later bD bP aA.out) (qd.out.later kj qT aA.out)).mono ?_;rintro e w4 ⟨rfl,ar⟩;have b7:=jq (aA.out.trans (ar.mono aA.out.size));clear ar;have HX:Hid (Np.yes (Np.VRoot ⟨s.data.toList,ty,life,d⟩ hints)=r):=jq (by
    rw[<-HR.out];exact Np.uo ⟨λq=>⟨⟨Np.f8.1 sZ.out,Np.f8.1 zM.out⟩,q⟩,λq=>q.2⟩)
   rw[HX.out];go_wp2_with fail;go_ret;exact⟨rfl,b7.out⟩
end
section
open Go.RowKit Go.MapKept Go.Shelf Go.Sort
theorem Xw(f u f' u':Int)(w:World) :
 Calls prog 122 #[.agg #[.int .i64 f,.int .i64 u],.agg #[.int .i64 f',.int .i64 u']] w λe w'=>e = .returned (.int .i64 (Np.cP f f'))/\∃ q os,w'=grow (w.drewN q) os:=by
 go_enter func122,ntmps122;go_wp2_with (go_at_call 123;refine (zZ _ _ _).mono ?_;rintro e w' ⟨rfl,rfl⟩);go_ret;exact⟨rfl,0,_,by rw[alloc_eq_grow,alloc_eq_grow,grow_grow];rfl⟩
def Np.ta(h:Np.Hist):Prop:=(1<=h.stop/\h.stop<=10000000)/\(0<=h.drift/\h.drift<=1000)
theorem aBK{h:Np.Hist} : Np.VHist h↔((Np.ta h/\Np.VWorld ⟨h.hosts,[],h.anchor,h.hints⟩)/\∀ c∈h.copies,Np.CopyOk h c)/\h.copies.Pairwise λc d=>¬ Np.ko c d:=
 ⟨λv=>⟨⟨⟨⟨v.stop,v.drift⟩,v.hosts,v.root,λp hp=>(by cases hp),List.Pairwise.nil⟩,v.each⟩,v.apart⟩,λv=>⟨v.1.1.1.1,v.1.1.1.2,v.1.1.2.hosts,v.1.1.2.root,v.1.2,v.2⟩⟩
structure rc(W:World)(X:Nat)(hv cv:Value)(stop:Int):Prop where
 c0:W.cell? ⟨X,0,none⟩=some hv
 c1:W.cell? ⟨X,1,none⟩=some cv
 c8:W.cell? ⟨X,8,none⟩=some (.int .i64 stop)
 lt:X<W.heap.size
theorem rc.keep{W W':World}{X B:Nat}{hv cv:Value}{stop:Int}(h:rc W X hv cv stop)(hb:Below B W W')(hB:X<B):rc W' X hv cv stop:=⟨(hb.cell hB).trans h.c0,(hb.cell hB).trans h.c1,(hb.cell hB).trans h.c8,lQ h.lt hb.size⟩
theorem rc.turned{W W':World}{X r:Nat}{hv cv:Value}{stop:Int}(h:rc W X hv cv stop)(ht:Turned r W W')(hr:X≠r):rc W' X hv cv stop:=⟨(ht.cell hr).trans h.c0,(ht.cell hr).trans h.c1,(ht.cell hr).trans h.c8,by rw[ht.size];exact h.lt⟩
theorem Wn{xs xs6:List fl}{l:List Np.Copy}{c:Np.Copy}{j:Nat}{g:List Np.Span}{v v':Value}(h:Np.GrpI (xs.map λx=>(x.1,x.2.1)) l)(hc:(xs6=xs/\xs[j]?=some (Np.gC c,g,v))\/(Np.gC c∉xs.map (·.1)/\xs6=xs ++ [(Np.gC c,[],.slice none 0 0)]/\j=xs.length/\g = []/\v = .slice none 0 0)):Np.GrpI ((xs6.set j (Np.gC c,g ++ [Np.jL c],v')).map λx=>(x.1,x.2.1)) (l ++ [c]):=by
 rcases hc with ⟨rfl,hj⟩ | ⟨hn,rfl,rfl,rfl,rfl⟩
 ·rw[List.map_set];exact h.old (by rw[List.getElem?_map,hj];rfl)
 ·rw[List.set_append_right _ _ (bQ _),Nat.sub_self,List.set_cons_zero,List.map_append];exact h.new (by rw[List.map_map];exact hn)
theorem Ok(hv:Value)(hs:List Np.Host)(cv:Value)(l:List Np.Copy)(s:ByteArray)(al:s.size<=140737488355328)(ty life:Int)(dv:Value)(d:List Np.Datum)(dx:Value)(hints:List Int)(drift stop:Int)(hl:l.length<=500)(hz:∀ p∈l,p.zone.sets.length<=20000)(w:World)(hR:iv w w.heap.size)
 (hh:SlR lN 3 w w.heap.size hv hs) (hd:SlR oq 5 w w.heap.size cv l) (hdd:SlR cA 3 w w.heap.size dv d) (iS:SlR iM 1 w w.heap.size dx hints) :
 Calls prog 56 #[.agg #[hv,cv,.string s,.int .i64 ty,.int .i64 life,dv,dx,.int .i64 drift,.int .i64 stop]] w λe w'=>e = .returned (.bool (Np.yes (Np.VHist ⟨hs,l,⟨s.data.toList,ty,life,d⟩,hints,drift,stop⟩)))/\Below w.heap.size w w':=by
 obtain⟨r,hr⟩:=aJZ (Np.yes (Np.VHist ⟨hs,l,⟨s.data.toList,ty,life,d⟩,hints,drift,stop⟩));obtain⟨iR,rL⟩:∃ h:Np.Hist,(⟨hs,l,⟨s.data.toList,ty,life,d⟩,hints,drift,stop⟩:Np.Hist)=h:=⟨_,rfl⟩;rw[hr];have HR:Hid (Np.yes (((Np.ta iR/\Np.VWorld ⟨hs,[],⟨s.data.toList,ty,life,d⟩,hints⟩)/\∀ c∈l,Np.CopyOk iR c)/\l.Pairwise λc d=>¬ Np.ko c d)=r):=jq (by rw[<-hr,<-rL];exact (Np.uo (aBK (h:=⟨hs,l,⟨s.data.toList,ty,life,d⟩,hints,drift,stop⟩))).symm);have jM:Hid (Np.ta iR↔(1<=stop/\stop<=10000000)/\(0<=drift/\drift<=1000)):=jq (by rw[<-rL];exact Iff.rfl);have jt:Hid (∀ c,Np.CopyOk iR c↔(0<=c.host/\c.host<hs.length)/\(0<=c.frm/\c.frm<c.til/\c.til<=stop)/\Np.VZone c.zone):=jq (λc=>by rw[<-rL];exact⟨λh=>⟨h.host,h.times,h.zone⟩,λh=>⟨h.1,h.2.1,h.2.2⟩⟩);have HH:=jq hh;have HD:=jq hd;have qa:=jq hdd;have qd:=jq iS;have jw:=jq hR;have HZ:=jq hz;obtain⟨A1,c1,rfl,_,_⟩:=aj hh;obtain⟨A2,c2,rfl,_,_⟩:=aj hd;obtain⟨A3,c3,rfl,_,_⟩:=aj hdd;obtain⟨A4,c4,rfl,_,_⟩:=aj iS;clear hr rL hd hR hh hdd iS hz;obtain⟨n1,bK⟩:=aJZ hs.length;obtain⟨n2,bY⟩:=aJZ l.length;obtain⟨n3,dF⟩:=aJZ d.length;obtain⟨n4,dY⟩:=aJZ hints.length;rw[bK] at HH jt |-;rw[bY] at HD hl |-;rw[dF] at qa |-;rw[dY] at qd |-;have HN:=jq (And.intro bK (And.intro bY (And.intro dF dY)));clear bK bY dF dY;obtain⟨W1,an⟩:=aJZ (w.alloc (.cells #[.slice A1 n1 c1,.slice A2 n2 c2,.string s,.int .i64 ty,.int .i64 life,.slice A3 n3 c3,.slice A4 n4 c4,.int .i64 drift,.int .i64 stop] 29));have aB:Below w.heap.size w W1:=by rw[<-an];exact (vQ _ _).alloc (bQ _) _
 have jF:W1.heap.size=w.heap.size+1:=by rw[<-an];simp
 obtain⟨X,hX⟩:=aJZ w.heap.size;have iK:=jq hX;have k0:W1.cell? ⟨X,0,none⟩=some (.slice A1 n1 c1):=by rw[<-an,<-hX];simp[go_sem]
 have k1:W1.cell? ⟨X,1,none⟩=some (.slice A2 n2 c2):=by rw[<-an,<-hX];simp[go_sem]
 have k2:W1.cell? ⟨X,2,none⟩=some (.string s):=by rw[<-an,<-hX];simp[go_sem]
 have k3:W1.cell? ⟨X,3,none⟩=some (.int .i64 ty):=by rw[<-an,<-hX];simp[go_sem]
 have k4:W1.cell? ⟨X,4,none⟩=some (.int .i64 life):=by rw[<-an,<-hX];simp[go_sem]
 have k5:W1.cell? ⟨X,5,none⟩=some (.slice A3 n3 c3):=by rw[<-an,<-hX];simp[go_sem]
 have k6:W1.cell? ⟨X,6,none⟩=some (.slice A4 n4 c4):=by rw[<-an,<-hX];simp[go_sem]
 have k7:W1.cell? ⟨X,7,none⟩=some (.int .i64 drift):=by rw[<-an,<-hX];simp[go_sem]
 have k8:W1.cell? ⟨X,8,none⟩=some (.int .i64 stop):=by rw[<-an,<-hX];simp[go_sem]
 rw[hX] at aB jF HH HD qa qd jw;rw[hX];have aO:=jq aB;clear aB;go_enter func56,ntmps56;by_cases g1:stop<1
 ·have dg1:decide (stop<1)=true:=uQ g1;have HX:Hid (r=false):=jq (by rw[<-HR.out];exact Np.aS λq=>by have:=jM.out.1 q.1.1.1;omega);clear g1;go_wp2_with fail;go_ret;exact⟨ae HX.out.symm,aO.out⟩
 have dg1:decide (stop<1)=false:=tQ g1;by_cases g2:10000000<stop
 ·have dg2:decide (10000000<stop)=true:=uQ g2;have HX:Hid (r=false):=jq (by rw[<-HR.out];exact Np.aS λq=>by have:=jM.out.1 q.1.1.1;omega);clear g2;go_wp2_with fail;go_ret;exact⟨ae HX.out.symm,aO.out⟩
 have dg2:decide (10000000<stop)=false:=tQ g2;by_cases g3:drift<0
 ·have dg3:decide (drift<0)=true:=uQ g3;have HX:Hid (r=false):=jq (by rw[<-HR.out];exact Np.aS λq=>by have:=jM.out.1 q.1.1.1;omega);clear g3;go_wp2_with fail;go_ret;exact⟨ae HX.out.symm,aO.out⟩
 have dg3:decide (drift<0)=false:=tQ g3;by_cases g4:1000<drift
 ·have dg4:decide (1000<drift)=true:=uQ g4;have HX:Hid (r=false):=jq (by rw[<-HR.out];exact Np.aS λq=>by have:=jM.out.1 q.1.1.1;omega);clear g4;go_wp2_with fail;go_ret;exact⟨ae HX.out.symm,aO.out⟩
 have dg4:decide (1000<drift)=false:=tQ g4;have d5:decide (4000<(n2:Int))=false:=aKX;have Fr:Hid (Np.ta iR):=jq (jM.out.2 (by omega));clear g1 g2 g3 g4;go_wp2_with fail;refine (aCY _ hs _ [] s al ty life _ d _ hints (by simp) (by simp) _ ((jw.out.keep aO.out).more (by omega)) ((HH.out.keep nR aO.out).more wH (by omega)) ⟨none,0,rfl,by simp,by simp,λi x hx=>by simp at hx⟩ ((qa.out.keep bD aO.out).more bP (by omega)) ((qd.out.keep kj aO.out).more qT (by omega))).mono ?_;rintro e w2 ⟨rfl,ac⟩;have aN:=ac.size;have CF:Hid (rc w2 X (.slice A1 n1 c1) (.slice A2 n2 c2) stop):=jq (rc.keep ⟨k0,k1,k8,by omega⟩ ac (by omega));have ah:=aIX aO ac;clear ac an k0 k1 k2 k3 k4 k5 k6 k7 k8;have k0:=CF.out.c0;have k1:=CF.out.c1;have NE:=CF.out.lt;obtain⟨b1,aq⟩:=aJZ (Np.yes (Np.VWorld ⟨hs,[],⟨s.data.toList,ty,life,d⟩,hints⟩));rw[aq];have sZ:=jq aq;clear aq;have vS:∀ (w:World),(Instr.makeMap 184 none).run prog w = .ok (.map (some w.heap.size)) (w.alloc (.map #[] 0)):=λw=>by
  simp[Instr.makeMap,Result.andThen]
 cases b1 with
 | false=>
  have HX:Hid (r=false):=jq (by rw[<-HR.out];exact Np.aS λq=>by have:=Np.cu q.1.1.2;rw[sZ.out] at this;cases this);go_wp2_with fail;go_ret;exact⟨ae HX.out.symm,ah.out⟩
 | true=>
  go_wp2_with fail;obtain⟨wm,B0⟩:=aJZ (w2.alloc (.map #[] 0));obtain⟨X1,mD⟩:=aJZ w2.heap.size;have uK:Hid (MapX (X1+1) X1 [] wm):=jq (by rw[<-B0,<-mD];exact MapX.made _ _);have hzm:wm.heap.size=X1+1:=by rw[<-B0,<-mD];simp
  have tv:Below X1 w2 wm:=by rw[<-B0,<-mD];exact (vQ _ _).alloc (bQ _) _
  have If:X<X1:=by omega
  have Fy:Hid (rc wm X (.slice A1 n1 c1) (.slice A2 n2 c2) stop):=jq (CF.out.keep tv If);have FA:=aIX ah tv;rw[B0,mD];clear B0 mD tv k0 k1;have eR:Hid (l.length=n2):=jq HN.out.2.1;go_loopw [47] (λi wr=>∃ (k:Nat) (xs:List fl),k<=n2/\i = .int .i64 k/\X1<wr.heap.size/\Hid (Below X1 wm wr)/\Hid (MapX (X1+1) X1 xs wr)/\Hid (Np.GrpI (xs.map λx=>(x.1,x.2.1)) (l.take k))/\Hid (∀ c∈l.take k,Np.CopyOk iR c)) (λi _=>n2 - (intOf i).toNat)
  case atStart=>exact⟨0,[],jQ _,rfl,by omega,jq (vQ _ _),uK,jq Np.GrpI.nil,jq (by simp)⟩
  case round=>
   obtain⟨k,xs,hk,rfl,bR,cH,HM,HG,bG⟩:=hrel;have HB:=aIX FA cH.out;have eL:=jq (Fy.out.keep cH.out If);have k0:=eL.out.c0;have k8:=eL.out.c8;by_cases aa:k<n2
   ·obtain⟨x,ab⟩:∃ x,l[k]?=some x:=⟨_,aQ (by rw[eR.out];exact aa)⟩;obtain⟨b,o,sn,vz,rfl,bj,ay,cC,eO,f0,f1,f2,f3,f4⟩:=tn (HD.out.keep l7 HB.out) ab;obtain⟨Az,cz,rfl,_,_⟩:=aj eO;obtain⟨nz,jk⟩:=aJZ x.zone.sets.length;rw[jk] at f4;have HT:Hid (l.take (k+1)=l.take k ++ [x]):=jq (by
     obtain⟨hl,he⟩:=cQ.1 ab;rw[fQ hl,he])
    have HF:Hid (¬ Np.CopyOk iR x->r=false):=jq (λh=>by rw[<-HR.out];exact Np.aS λq=>h (q.1.2 x (gQ ab)));have zO:Hid (x.zone.sets.length<=20000):=jq (HZ.out x (gQ ab));have aW:=jq ay;have jT:Hid (SlR cV 5 wr wr.heap.size (.slice Az nz cz) x.zone.sets):=jq (by rw[<-jk];exact eO.more fD (by omega));obtain⟨w3,ct⟩:=aJZ (wr.alloc (.cells #[.int .i64 x.host,.int .i64 x.frm,.int .i64 x.til,.string sn,.slice Az nz cz] 46));have gV:w3.heap.size=wr.heap.size+1:=by rw[<-ct];simp
    have ak:Below wr.heap.size wr w3:=by rw[<-ct];exact (vQ _ _).alloc (bQ _) _
    have p0:w3.cell? ⟨wr.heap.size,0,none⟩=some (.int .i64 x.host):=by rw[<-ct];simp[go_sem]
    have p1:w3.cell? ⟨wr.heap.size,1,none⟩=some (.int .i64 x.frm):=by rw[<-ct];simp[go_sem]
    have p2:w3.cell? ⟨wr.heap.size,2,none⟩=some (.int .i64 x.til):=by rw[<-ct];simp[go_sem]
    have p3:w3.cell? ⟨wr.heap.size,3,none⟩=some (.string sn):=by rw[<-ct];simp[go_sem]
    have p4:w3.cell? ⟨wr.heap.size,4,none⟩=some (.slice Az nz cz):=by rw[<-ct];simp[go_sem]
    have q0:w3.cell? ⟨X,0,none⟩=some (.slice A1 n1 c1):=aIZ ak k0;have q8:w3.cell? ⟨X,8,none⟩=some (.int .i64 stop):=aIZ ak k8;have aA:=aIX HB ak;have FB:=aIX cH ak;have qi:=jq (HM.out.keep ak);have xN:Hid (SlR cV 5 w3 w3.heap.size (.slice Az nz cz) x.zone.sets):=jq ((jT.out.keep bU ak).more fD ak.size);clear ab ay eO jk ak jT;by_cases g1:x.host<0
    ·have dg1:decide (x.host<0)=true:=uQ g1;have HX:Hid (r=false):=jq (HF.out λh=>by have:=(jt.out x).1 h;omega);clear g1;go_wp2_with fail;go_ret;exact⟨ae HX.out.symm,aA.out⟩
    have dg1:decide (x.host<0)=false:=tQ g1;by_cases g2:(n1:Int)<=x.host
    ·have dg2:decide ((n1:Int)<=x.host)=true:=uQ g2;have HX:Hid (r=false):=jq (HF.out λh=>by have:=(jt.out x).1 h;omega);clear g2;go_wp2_with fail;go_ret;exact⟨ae HX.out.symm,aA.out⟩
    have dg2:decide ((n1:Int)<=x.host)=false:=tQ g2;by_cases g3:x.frm<0
    ·have dg3:decide (x.frm<0)=true:=uQ g3;have HX:Hid (r=false):=jq (HF.out λh=>by have:=(jt.out x).1 h;omega);clear g3;go_wp2_with fail;go_ret;exact⟨ae HX.out.symm,aA.out⟩
    have dg3:decide (x.frm<0)=false:=tQ g3;by_cases g4:x.til<=x.frm
    ·have dg4:decide (x.til<=x.frm)=true:=uQ g4;have HX:Hid (r=false):=jq (HF.out λh=>by have:=(jt.out x).1 h;omega);clear g4;go_wp2_with fail;go_ret;exact⟨ae HX.out.symm,aA.out⟩
    have dg4:decide (x.til<=x.frm)=false:=tQ g4;by_cases g5:stop<x.til
    ·have dg5:decide (stop<x.til)=true:=uQ g5;have HX:Hid (r=false):=jq (HF.out λh=>by have:=(jt.out x).1 h;omega);clear g5;go_wp2_with fail;go_ret;exact⟨ae HX.out.symm,aA.out⟩
    have dg5:decide (stop<x.til)=false:=tQ g5;have zi:Hid ((0<=x.host/\x.host<n1)/\(0<=x.frm/\x.frm<x.til/\x.til<=stop)):=jq (by omega);clear g1 g2 g3 g4 g5;go_wp2_with fail;refine (RO sn cC _ x.zone.sets zO.out w3 ((jw.out.keep aA.out).more (by omega)) xN.out).mono ?_;rintro e w4 ⟨rfl,ar⟩;have jm:w3.heap.size<=w4.heap.size:=ar.size;have s0:w4.cell? ⟨wr.heap.size,0,none⟩=some (.int .i64 x.host):=aIZ ar p0;have s1:w4.cell? ⟨wr.heap.size,1,none⟩=some (.int .i64 x.frm):=aIZ ar p1;have s2:w4.cell? ⟨wr.heap.size,2,none⟩=some (.int .i64 x.til):=aIZ ar p2;have s3:w4.cell? ⟨wr.heap.size,3,none⟩=some (.string sn):=aIZ ar p3;have s4:w4.cell? ⟨wr.heap.size,4,none⟩=some (.slice Az nz cz):=aIZ ar p4;have b7:=aIX aA ar;have FC:=aIX FB ar;have Gb:=jq (qi.out.keep ar);clear ar p0 p1 p2 p3 p4 ct f0 f1 f2 f3 f4 q0 q8 k0 k8 qi;obtain⟨rz,eD⟩:=aJZ (Np.yes (Np.VZone ⟨sn.data.toList,x.zone.sets⟩));rw[eD];have iI:=jq eD;clear eD
    cases rz with
    | false=>
     have HX:Hid (r=false):=jq (HF.out λh=>by
      have h1:=((jt.out x).1 h).2.2;have h2:x.zone=⟨sn.data.toList,x.zone.sets⟩:=by rw[aW.out]
      rw[h2] at h1;have h3:=Np.cu h1;rw[iI.out] at h3
      cases h3)
     go_wp2_with fail;go_ret;exact⟨ae HX.out.symm,b7.out⟩
    | true=>
     have re:Hid (Np.CopyOk iR x):=jq ((jt.out x).2 ⟨zi.out.1,zi.out.2,by
      have h2:x.zone=⟨sn.data.toList,x.zone.sets⟩:=by rw[aW.out]
      rw[h2];exact Np.f8.1 iI.out⟩)
     have Gp:Hid (∀ c∈l.take (k+1),Np.CopyOk iR c):=jq (λc hc=>by
      rw[HT.out] at hc;rcases List.mem_append.1 hc with hc | hc
      ·exact bG.out c hc
      ·rw[List.mem_singleton] at hc;subst hc;exact re.out)
     have pi:Hid (Np.gC x=(x.host,sn.data.toList)):=jq (by unfold Np.gC;rw[aW.out]);obtain⟨w5,aJ⟩:=aJZ (w4.alloc (.cells #[.int .i64 x.host,.string sn] 186));obtain⟨w6,ef⟩:=aJZ (w5.alloc (.cells #[.int .i64 x.frm,.int .i64 x.til] 110));have kT:w5.heap.size=w4.heap.size+1:=by rw[<-aJ];simp
     have kf:w6.heap.size=w5.heap.size+1:=by rw[<-ef];simp
     have av:Below w4.heap.size w4 w5:=by rw[<-aJ];exact (vQ _ _).alloc (bQ _) _
     have aL:Below w4.heap.size w4 w6:=by rw[<-ef];exact av.alloc (by omega) _
     have t0:w5.cell? ⟨w4.heap.size,0,none⟩=some (.int .i64 x.host):=by rw[<-aJ];simp[go_sem]
     have t1:w5.cell? ⟨w4.heap.size,1,none⟩=some (.string sn):=by rw[<-aJ];simp[go_sem]
     have u1:w5.cell? ⟨wr.heap.size,1,none⟩=some (.int .i64 x.frm):=aIZ av s1;have u2:w5.cell? ⟨wr.heap.size,2,none⟩=some (.int .i64 x.til):=aIZ av s2;have y0:w6.cell? ⟨w5.heap.size,0,none⟩=some (.int .i64 x.frm):=by rw[<-ef];simp[go_sem]
     have y1:w6.cell? ⟨w5.heap.size,1,none⟩=some (.int .i64 x.til):=by rw[<-ef];simp[go_sem]
     have Tl:=jq (Gb.out.keep aL);have dj:=aIX b7 aL;have Sm:=aIX FC aL;have jP:Hid (∀ (j:Nat) (g:List Np.Span) (v:Value),xs[j]?=some ((x.host,sn.data.toList),g,v)->g.length<=500):=jq (λj g v hj=>by
      have h1:=HG.out.each ((x.host,sn.data.toList),g) (List.mem_map.2 ⟨_,gQ hj,rfl⟩);simp only at h1;rw[h1];unfold Np.fP;rw[List.length_map];refine yQ (List.length_filter_le _ _) ?_;rw[List.length_take,eR.out];omega)
     clear av aL;go_wp2_with (first
      | (refine aEY _ rfl _ _ rfl (X1+1) X1 xs rfl Tl.out (Nat.lt_succ_self _) (x.host,sn.data.toList) rfl ?_;intro w7 j7 g7 v7 xs7 It Ol OA BT;have la:=jq It;have F0:=jq Ol;have Gc:=jq OA;have TZ:=jq BT;have y0':w7.cell? ⟨w5.heap.size,0,none⟩=some (.int .i64 x.frm):=(BT.cell (by dsimp only;omega)).trans y0;have y1':w7.cell? ⟨w5.heap.size,1,none⟩=some (.int .i64 x.til):=(BT.cell (by dsimp only;omega)).trans y1;have qG:w7.heap.size=w6.heap.size:=BT.size;have CS:Hid (g7.length<=100000):=jq (by rcases It with ⟨_,hj⟩ | ⟨_,_,_,rfl,_⟩;exact yQ (jP.out _ _ _ hj) (by omega);simp);clear It Ol OA BT)
      | (at_builtin;refine aEJ _ rfl _ _ rfl (X1+1) v7 g7 rfl (Gc.out.row _ (gQ F0.out)) w5.heap.size x.frm x.til (by simp[go_sem]) y0' y1' CS.out (by omega) ?_;intro v8 w8 dK cr NH;have H8:=jq (And.intro dK (And.intro cr NH));have qH:w7.heap.size<=w8.heap.size:=cr.size;clear dK cr NH)
      | (refine aEX _ w7 rfl _ _ _ rfl (X1+1) X1 xs7 Gc.out (Nat.lt_succ_self _) j7 (x.host,sn.data.toList) g7 (g7 ++ [⟨x.frm,x.til⟩]) v7 v8 F0.out H8.out.2.1 H8.out.1 H8.out.2.2 rfl rfl rfl ?_;intro w9 OB O4;have H9:=jq (And.intro OB O4);clear OB O4))
     go_roundw
     case rel=>
      have e9:Below X1 wm w9:=((Sm.out.trans (TZ.out.below (bQ _))).grown H8.out.2.1 (by omega) (λq hq=>by have:=(World.ownsRow.lt (Gc.out.row _ (gQ F0.out)) q hq).1;omega)).trans (H9.out.2.below (bQ _));refine⟨k+1,_,by omega,by go_num,by rw[H9.out.2.size];omega,jq e9,jq H9.out.1,jq ?_,Gp⟩;rw[HT.out];have hc:=la.out;rw[<-pi.out] at hc
      have:=Wn (v':=v8) HG.out hc
      rw[pi.out] at this;exact this
     case measure=>simp[intOf] <;> omega
   ·have jS:Hid (l.take k=l):=jq (kQ (by rw[eR.out];omega));have ri:Hid (Np.GrpI (xs.map λx=>(x.1,x.2.1)) l):=jq (by have:=HG.out;rwa [jS.out] at this);have zu:Hid (∀ c∈l,Np.CopyOk iR c):=jq (by have:=bG.out;rwa [jS.out] at this);have k1:=eL.out.c1;clear HG bG jS k0 k8;go_wp2_with (at_range;refine aFZ _ rfl _ rfl (X1+1) X1 xs rfl HM.out ?_;intro w10 OQ AM Pe;have LM:=jq OQ;have xi:=aIX cH AM;clear OQ AM);go_frame;obtain⟨I,hI⟩:=aJZ wr.heap.size;rw[hI] at LM Pe;rw[hI];have aLX:X1<I:=by omega
    have Ll:Hid (∀ x∈xs,x.2.1.length<=500/\∀ t∈x.2.1,t.frm<t.til):=jq (λx hx=>by
     have h1:=ri.out.each (x.1,x.2.1) (List.mem_map.2 ⟨x,hx,rfl⟩);simp only at h1;rw[h1];refine⟨?_,λt ht=>?_⟩
     ·unfold Np.fP;rw[List.length_map];refine yQ (List.length_filter_le _ _) ?_;rw[eR.out];omega
     ·obtain⟨c,hc,rfl⟩:=List.mem_map.1 ht;exact (((jt.out c).1 (zu.out c (List.mem_filter.1 hc).1)).2.1).2.1)
    have nY:Hid ((l.Pairwise λc d=>¬ Np.ko c d)↔∀ x∈xs,x.2.1.Pairwise λa b=>¬ Np.om a b):=jq (ri.out.ok.trans ⟨λh x hx=>h (x.1,x.2.1) (List.mem_map.2 ⟨x,hx,rfl⟩),λh y hy=>by
     obtain⟨x,hx,rfl⟩:=List.mem_map.1 hy;exact h x hx⟩)
    have aHK:=Fy;clear eL HM cH HB hI bR k1;go_loopw [] (λwq=>∃ (seen:Array Nat) (xs':List fl),I<wq.heap.size/\Hid (Below X1 wm wq)/\Hid (RangeX (X1+1) X1 I xs' seen wq)/\Hid (xs'.length=xs.length/\∀ (j:Nat) (x':fl),xs'[j]?=some x'->∃ x:fl,xs[j]?=some x/\x'.2.1.Perm x.2.1)/\Hid (∀ (j:Nat) (x:fl),seen.contains j=true->xs[j]?=some x->x.2.1.Pairwise λa b=>¬ Np.om a b)) (λwq=>wq.rangeLeft X1 I)
    case atStart=>exact⟨#[],xs,by omega,xi,LM,jq ⟨rfl,λj x hx=>⟨x,hx,List.Perm.refl _⟩⟩,jq (by simp)⟩
    case round=>
     obtain⟨seen,xs',Hv,k9,TR,C2,LK⟩:=hrel;have Sh:=jq (Fy.out.keep k9.out If);have k1:=Sh.out.c1;go_wp2_with (at_next;refine aFQ _ rfl _ rfl (X1+1) X1 I xs' seen rfl TR.out (λnv=>?_) (λj p g v w11 hj I4 Em IS hen=>?_))
     ·have od:Hid (l.Pairwise λc d=>¬ Np.ko c d):=jq (nY.out.2 λx hx=>by
       obtain⟨j,hj,rfl⟩:=nQ.1 hx;exact LK.out j _ (nv j (by rw[C2.out.1];exact hj)) (aQ hj))
      have kq:=aIX FA k9.out;refine (Rm _ l (by rw[eR.out];omega) _ ((HD.out.keep l7 kq.out).more wE (by omega))).mono ?_;rintro e w13 ⟨v13,rfl,BE,AN⟩;obtain⟨A13,c13,rfl⟩:=cm.form BE;have Fq:=aIX kq AN;have IP:(Np.cF (l.map (·.zone.apex))).length<=500:=by
       have:=Np.wO (l.map (·.zone.apex))
       rw[List.length_map,eR.out] at this;omega
      obtain⟨m13,By⟩:=aJZ ((Np.cF (l.map (·.zone.apex))).length);rw[By] at IP |-;have d13:decide ((m13:Int)<=500)=true:=aLQ;clear BE AN By;go_wp2_with fail;go_ret;exact⟨ae (by rw[<-HR.out];exact (Np.cu ⟨⟨⟨Fr.out,Np.f8.1 sZ.out⟩,zu.out⟩,od.out⟩).symm),Fq.out⟩
     ·obtain⟨xj,Js,I0⟩:=C2.out.2 j _ hj;have hlg:g.length=xj.2.1.length:=I0.length_eq;have XJ:=(Ll.out xj (gQ Js)).1;have LG:=jq I0;have C5:=jq Js;have HJ:=jq hj;have GA:=jq I4;have aJX:=jq Em;have aJQ:=jq IS;have aKY:I<w11.heap.size:=by rw[Em.size];exact Hv
      have RV:Hid (Below X1 wm w11):=jq (k9.out.trans (Em.below (by omega)));refine (Q5 _ Xw (enters_of func122 (by kernel_rfl) rfl) (X1+1) v g w11 (GA.out.mapX.row _ (gQ (by exact HJ.out))) (by omega)).mono ?_;rintro e w12 ⟨rfl,ys,hp,tU,Ee,yo⟩;have TL:Hid (RangeX (X1+1) X1 I (xs'.set j (p,ys,v)) (seen.push j) w12):=jq (GA.out.changed (Nat.lt_succ_self _) HJ.out yo Ee);have mY:Hid (Np.GT ys↔xj.2.1.Pairwise λa b=>¬ Np.om a b):=jq (Np.aoX (hp.trans LG.out) tU (Ll.out xj (gQ C5.out)).2);have LJ:Hid (ys.Perm xj.2.1):=jq (hp.trans LG.out);have ij:∀ q,v.ownBlock=some q->X1+1<=q:=λq hq=>(World.ownsRow.lt (GA.out.mapX.row _ (gQ (by exact HJ.out))) q hq).1;have uw:Hid (Below X1 wm w12):=jq (RV.out.grown yo (by omega) (λq hq=>by have:=ij q hq;omega));have X8:w12.rangeLeft X1 I<wr.rangeLeft X1 I:=by
       have e:w12.rangeLeft X1 I=w11.rangeLeft X1 I:=Qo (yo.block X1 (by omega) (λe=>by have:=ij _ e.symm;omega)) (yo.block I (by omega) (λe=>by have:=I4.row _ (gQ hj);exact this e.symm));rw[e];exact IS
      have aYX:I<w12.heap.size:=by have:=yo.size;omega
      have LO:Hid (SlR bA 2 w12 w12.heap.size v ys):=jq (aw.slr Ee (by have:=hp.length_eq;omega));have ze:Hid (¬ Np.GT ys->r=false):=jq (λh=>by
       rw[<-HR.out];refine Np.aS λq=>h (mY.out.2 ?_);exact (nY.out.1 q.2) xj (gQ C5.out))
      have YE:ys.length<=500:=by rw[LJ.out.length_eq];exact XJ
      obtain⟨Av,cv,rfl⟩:=aw.form Ee;obtain⟨wo,rfl⟩:=aKQ wr;clear hp tU Ee yo I4 Em IS hen hj Js I0 ij k1;obtain⟨ny,nD⟩:=aJZ ys.length;rw[nD] at YE LO;rw[nD];have Lw:=jq nD;clear nD;go_wp2_with fail;go_loopw [9] (λi wi=>∃ q:Nat,1<=q/\(q<=ny\/q=1)/\i = .int .i64 q/\Hid (Below w12.heap.size w12 wi)/\Hid (∀ t (h:t+1<ys.length),t+1<q->ys[t].til<=ys[t+1].frm)) (λi _=>ny - (intOf i).toNat)
      case atStart=>exact⟨1,bQ _,.inr rfl,rfl,jq (vQ _ _),jq (λt h h2=>by omega)⟩
      case round=>
       obtain⟨q,I3,gL,rfl,ca,HQ⟩:=hrel;have ub:=ca.out.size;by_cases Ow:q<ny
       ·obtain⟨m,hm⟩:∃ m,q=m+1:=⟨q - 1,by omega⟩;have nD:=Lw.out;have yt:m<ys.length:=by omega
        have OO:q<ys.length:=by omega
        obtain⟨a,ha⟩:∃ a,ys[m]?=some a:=⟨_,aQ yt⟩;obtain⟨b,hb⟩:∃ b,ys[q]?=some b:=⟨_,aQ OO⟩;have CM:=LO.out.keep bE ca.out;obtain⟨bb,oo,rfl⟩:=nS (k:=m) CM yt;obtain⟨bB,Ik⟩:=ma CM ha;obtain⟨_,Il⟩:=ma CM hb;have a0:=Ik.c0;have a1:=Ik.c1;have b0:=Il.c0;have b1:=Il.c1;have aV:IntKind.i64.wrap ((q:Int) - 1)=(m:Int):=by rw[show (q:Int) - 1=m by omega];simp[IntKind.wrap,IntKind.bits,IntKind.signed];omega
        have i1:(0:Int)<=(q:Int):=by omega
        have i2:(q:Int)<(ny:Int):=by omega
        have i3:(0:Int)<=(m:Int):=by omega
        have i4:(m:Int)<(ny:Int):=by omega
        have i5:m<ny:=by omega
        have sJ:Hid (b.frm<a.til->r=false):=jq (λaa=>ze.out λkb=>by
         have h1:=kb m (by omega);obtain⟨e1,e2⟩:=cQ.1 ha;obtain⟨e3,e4⟩:=cQ.1 hb;subst hm;rw[e2,e4] at h1;omega)
        have CO:Hid (¬ b.frm<a.til->∀ t (h:t+1<ys.length),t+1<q+1->ys[t].til<=ys[t+1].frm):=jq (λpI t h h2=>by
         by_cases e:t=m
         ·subst e;obtain⟨e1,e2⟩:=cQ.1 ha;obtain⟨e3,e4⟩:=cQ.1 hb;subst hm;rw[e2,e4];omega
         ·exact HQ.out t h (by omega))
        obtain⟨af,au⟩:=a;obtain⟨bf,bu⟩:=b;dsimp only at a0 a1 b0 b1 sJ CO;clear ha hb CM Ik Il hm nD yt OO bB;by_cases rE:bf<au
        ·have dd:decide (bf<au)=true:=uQ rE;have HX:=jq (sJ.out rE);have kq:=jq (FA.out.trans ((uw.out.trans (ca.out.aKZ)).aKZ));clear rE;go_wp2_with fail;go_quiet (fail);go_wp2_with fail;go_ret;exact⟨ae HX.out.symm,below_drewN kq.out _⟩
        ·have dd:decide (bf<au)=false:=tQ rE;have HX:=jq (CO.out rE);clear rE;go_wp2_with fail;go_quiet (fail);go_wp2_with fail;go_roundw
         case rel=>exact⟨q+1,by omega,by omega,by go_num,jq (below_drewN ca.out _),HX⟩
         case measure=>simp[intOf] <;> omega
       ·have od:Hid (xj.2.1.Pairwise λa b=>¬ Np.om a b):=jq (mY.out.1 λt h=>HQ.out t h (by have:=Lw.out;omega));go_wp2_with fail;go_roundw
        case rel=>
         refine⟨seen.push j,_,by omega,aIX uw ca.out,jq (TL.out.keep ca.out),jq ⟨by rw[List.length_set];exact C2.out.1,λj' x' hx'=>?_⟩,jq λj' x hs hx=>?_⟩
         ·rw[List.getElem?_set] at hx';split at hx'
          ·rename_i e;subst e;rw[Qb (cQ.1 HJ.out).1] at hx'
           cases hx'
           exact⟨xj,C5.out,LJ.out⟩
          ·exact C2.out.2 j' x' hx'
         ·rw[Array.contains_push,Bool.or_eq_true] at hs;rcases hs with hs | hs
          ·exact LK.out j' x hs hx
          ·have e:j'=j:=by simpa using hs
           subst e
           have:=C5.out
           rw[this] at hx
           cases hx
           exact od.out
        case measure=>
         have e:=Qo (w:=w12) (w':=wr) (r:=X1) (I:=I) (ca.out.block _ (by omega)) (ca.out.block _ (by omega));rw[e];exact X8
end
section
open Go.RowKit
theorem Qm:∀ (o:List (List UInt8)) (a:List UInt8) (q:Nat) (hq:q<o.length),(∀ t (h:t<o.length),t<q->Np.aI o[t] a<0)->o[q]=a->Np.eJ o a=o
 | [],_,_,hq,_,_=>by simp at hq
 | x::l,a,0,_,_,he=>by
   simp at he;subst he;rw[Np.eJ,Qc (by rw[Np.eY.self];omega),Qb rfl]
 | x::l,a,q+1,hq,aa,he=>by
   have h0:=aa 0 (by simp) (by omega);rw[Np.eJ,Qb (by simpa using h0),Qm l a q (by simpa using hq) (λt h ht=>aa (t+1) (by simpa using h) (by omega)) (by simpa using he)]
theorem JQ:∀ (o:List (List UInt8)) (a:List UInt8) (q:Nat),q<=o.length->(∀ t (h:t<o.length),t<q->Np.aI o[t] a<0)->(∀ h:q<o.length,¬ Np.aI o[q] a<0/\o[q]≠a)->Np.eJ o a=o.take q++a::o.drop q
 | [],a,q,_,_,_=>by simp[Np.eJ]
 | x::l,a,0,_,_,hn=>by
   obtain⟨h1,h2⟩:=hn (by simp);simp at h1 h2;rw[Np.eJ,Qc (by omega),Qc h2];rfl
 | x::l,a,q+1,hq,aa,hn=>by
   have h0:=aa 0 (by simp) (by omega);rw[Np.eJ,Qb (by simpa using h0),JQ l a q (by simpa using hq) (λt h ht=>aa (t+1) (by simpa using h) (by omega)) (λh=>hn (by simpa using h))];rfl
theorem asZ{o:List (List UInt8)}{x:List UInt8}{m:Nat}(hm:m<o.length):(o.take (m+1)++x::o.drop (m+1)).set (m+1) o[m]=o.take m++o[m]::o.drop m:=by
 have h1:(o.take (m+1)).length=m+1:=by rw[List.length_take];omega
 rw[List.set_append_right _ _ (by omega),h1,Nat.sub_self,List.set_cons_zero,fQ hm,List.append_assoc,sQ hm];rfl
theorem QU{o:List (List UInt8)}{x a:List UInt8}{q:Nat}(hq:q<=o.length):(o.take q++x::o.drop q).set q a=o.take q++a::o.drop q:=by
 have h1:(o.take q).length=q:=by rw[List.length_take];omega
 rw[List.set_append_right _ _ (by omega),h1,Nat.sub_self,List.set_cons_zero]
theorem asJ{o:List (List UInt8)}{x:List UInt8}{j t:Nat}(ht:t<j)(hj:j<=o.length):(o.take j++x::o.drop j)[t]?=o[t]?:=by
 rw[List.getElem?_append_left (by rw[List.length_take];omega),List.getElem?_take_of_lt ht]
theorem QW{o:List (List UInt8)}{x:List UInt8}{j:Nat}(hj:j<=o.length):(o.take j++x::o.drop j)[j]?=some x:=by
 have h1:(o.take j).length=j:=by rw[List.length_take];omega
 rw[oQ (by omega),h1,Nat.sub_self];rfl
theorem QV{o:List (List UInt8)}{x:List UInt8}{j:Nat}(hj:j<=o.length):(o.take j++x::o.drop j).length=o.length+1:=by
 rw[List.length_append,List.length_cons,List.length_take,List.length_drop];omega
theorem Qk:∀ (o:List (List UInt8)) (a:List UInt8),(Np.eJ o a).length<=o.length+1
 | [],a=>by simp[Np.eJ]
 | x::l,a=>by
   rw[Np.eJ];split
   ·have:=Qk l a;simp;omega
   ·split <;> simp
theorem Hh:∀ (l o:List (List UInt8)),(l.foldl Np.eJ o).length<=o.length+l.length
 | [],o=>by simp
 | a::l,o=>by
   have h1:=Hh l (Np.eJ o a);have h2:=Qk o a;rw[List.foldl_cons,List.length_cons];omega
theorem M8:∀ (l o:List (List UInt8)) (y:List UInt8),y∈l.foldl Np.eJ o->y∈o\/y∈l
 | [],o,y,h=>.inl h
 | a::l,o,y,h=>by
   rcases M8 l _ y h with h1 | h1
   ·have:∀ (o:List (List UInt8)),y∈Np.eJ o a->y∈o\/y=a:=by
     intro o
     induction o with
     | nil=>intro h;rw[Np.eJ,List.mem_singleton] at h;exact .inr h
     | cons x l ih=>
      intro h;rw[Np.eJ] at h;split at h
      ·rcases List.mem_cons.1 h with h | h
       ·exact .inl (by rw[h];simp)
       ·rcases ih h with h | h
        ·exact .inl (mQ _ h)
        ·exact .inr h
      ·split at h
       ·exact .inl h
       ·rcases List.mem_cons.1 h with h | h
        ·exact .inr h
        ·exact .inl h
    rcases this o h1 with h2 | h2
    ·exact .inl h2
    ·exact .inr (by rw[h2];simp)
   ·exact .inr (mQ _ h1)
theorem QG{X:Nat}{w:World}{v:Value}{o:List (List UInt8)}{a:List UInt8}{N1:Nat}(h:cm X w v (o ++ [a]))(hN:o.length+1=N1):∃ g cap,v = .slice (some ⟨g,0,none⟩) N1 cap/\w.ownsRow X 9 1 (.slice (some ⟨g,0,none⟩) N1 cap) N1 ((o ++ [a]).map aC):=by
 have e:(o ++ [a]).length=N1:=by simp[hN]
 have h1:w.ownsRow X 9 1 v N1 ((o ++ [a]).map aC):=by rw[<-e];exact h
 rcases h1.2 with ⟨_,h2⟩ | ⟨g,cap,cur,rfl,_⟩
 ·omega
 ·exact⟨g,cap,rfl,h1⟩
theorem Qs(v:Value)(l:List Np.Copy)(bw:l.length<=20000)(oF:∀ c∈l,c.zone.apex.length<=1000)(w:World)(h:SlR oq 5 w w.heap.size v l) :
 Calls prog 90 #[v] w λe w'=>∃ v',e = .returned v'/\cm w.heap.size w' v' (Np.apexes l)/\Below w.heap.size w w':=by
 rw[<-Np.Mn];have HD:=jq h;have nY:=jq oF;obtain⟨A,c,rfl,be,bC⟩:=aj h;clear h oF;obtain⟨X,hX⟩:=aJZ w.heap.size;rw[hX] at HD |-;have iK:=jq hX;clear hX;go_enter func90,ntmps90;go_wp2_with fail;go_loopw [3,4] (λvo i wr=>∃ (k:Nat) (o:List (List UInt8)),k<=l.length/\i = .int .i64 k/\X<=wr.heap.size/\Hid (Below X w wr)/\Hid (cm X wr vo o)/\Hid (((l.take k).map (·.zone.apex)).foldl Np.eJ []=o)) (λ_ i _=>l.length - (intOf i).toNat)
 case atStart=>exact⟨0,[],jQ _,rfl,by rw[iK.out];exact bQ _,jq (vQ _ _),jq ⟨by simp,.inl ⟨rfl,rfl⟩⟩,jq rfl⟩
 case round=>
  obtain⟨k,o,hk,rfl,vv,HB,HO,HE⟩:=hrel;have fJ:Hid (o.length<=20000):=jq (by have:=Hh ((l.take k).map (·.zone.apex)) [];rw[HE.out] at this;simp at this;omega);have zw:Hid (∀ y∈o,y.length<=1000):=jq (λy hy=>by
   rw[<-HE.out] at hy;rcases M8 _ _ _ hy with h1 | h1
   ·cases h1
   ·obtain⟨c,hc,rfl⟩:=List.mem_map.1 h1;exact nY.out c (List.mem_of_mem_take hc))
  by_cases aa:k<l.length
  ·obtain⟨x,ab⟩:∃ x,l[k]?=some x:=⟨_,aQ aa⟩;obtain⟨b,oo,sn,vz,rfl,bj,ay,cC,eO,f0,f1,f2,f3,f4⟩:=tn (HD.out.keep l7 HB.out) ab;have qc:Hid (((l.take (k+1)).map (·.zone.apex)).foldl Np.eJ []=Np.eJ o sn.data.toList):=jq (by
    obtain⟨hl,he⟩:=cQ.1 ab;rw[fQ hl,he,List.map_append,List.foldl_append,HE.out,ay];rfl)
   have Yc:sn.size<=1000:=by
    have h1:=nY.out x (gQ ab);rw[<-ay,bk] at h1;exact h1
   obtain⟨A0,c0,rfl⟩:=cm.form HO.out;obtain⟨N,hN⟩:=aJZ o.length;have HN:=jq hN;have iH:Hid (wr.ownsRow X 9 1 (.slice A0 N c0) N (o.map aC)):=jq (by have:wr.ownsRow X 9 1 (.slice A0 o.length c0) o.length (o.map aC):=HO.out;rwa [hN] at this);have aLK:N<=20000:=by rw[<-hN];exact fJ.out
   rw[hN] at HO;rw[hN];obtain⟨wo,rfl⟩:=aKQ wr;clear ab ay eO f4 hN;go_wp2_with fail;go_loopw [6] (λp wi=>∃ q:Nat,q<=N/\p = .int .i64 q/\Hid (Below wo.heap.size wo wi)/\Hid (∀ t (h:t<o.length),t<q->Np.aI o[t] sn.data.toList<0)) (λp _=>N - (intOf p).toNat)
   case atStart=>exact⟨0,jQ _,rfl,jq (vQ _ _),jq (λt h ht=>by omega)⟩
   case round=>
    obtain⟨q,X3,rfl,ca,HQ⟩:=hrel;have ub:=ca.out.size;have oa:Hid (wr.ownsRow X 9 1 (.slice A0 N c0) N (o.map aC)):=jq (cX iH.out (λg hg=>ca.out.block g (iH.out.lt g hg).2));by_cases hq:q<N
    ·obtain⟨g,rfl⟩:∃ g,A0=some ⟨g,0,none⟩:=by
      rcases oa.out.2 with ⟨h1,h2⟩ | ⟨g,cap,cur,h1,_⟩
      ·omega
      ·simp only[Value.slice.injEq] at h1;exact⟨g,h1.1⟩
     have OP:q<o.length:=by rw[HN.out];exact hq
     obtain⟨y,hy⟩:∃ y,o[q]?=some y:=⟨_,aQ OP⟩;have r0:wr.cell? ⟨g,q,none⟩=some (aC y):=by rw[oa.out.cellAt q (by omega),List.getElem?_map,hy];rfl
     have YD:(⟨y.toArray⟩:ByteArray).size<=1000:=by
      have:=zw.out y (gQ hy)
      rw[<-bk];exact this
     have HY:Hid (o[q]'OP=y):=jq (cQ.1 hy).2;have cB:=JU ⟨y.toArray⟩ sn YD Yc;have e1:(⟨y.toArray⟩:ByteArray).data.toList=y:=rfl;rw[e1] at cB;have HC:=jq cB;clear cB e1 hy;by_cases gj:Np.aI y sn.data.toList<0
     ·have hd:decide (Np.aI y sn.data.toList<0)=true:=uQ gj;have uR:Hid (∀ t (h:t<o.length),t<q+1->Np.aI o[t] sn.data.toList<0):=jq (λt h ht=>by
       by_cases e:t=q
       ·subst e;rw[HY.out];exact gj
       ·exact HQ.out t h (by omega))
      obtain⟨cz,rH⟩:=aJZ (Np.aI y sn.data.toList);rw[rH] at hd HC;clear gj rH;unfold aC at r0;go_wp2_with (go_at_call 164;refine (HC.out _).mono ?_;rintro e w5 ⟨rfl,av⟩;have cG:=jq (ca.out.trans (av.mono ub));clear av);go_roundw
      case rel=>exact⟨q+1,by omega,by go_num,jq cG.out,uR⟩
      case measure=>simp[intOf] <;> omega
     ·have hd:decide (Np.aI y sn.data.toList<0)=false:=tQ gj;have Tr:=jq gj;obtain⟨cz,rH⟩:=aJZ (Np.aI y sn.data.toList);rw[rH] at hd HC;clear gj rH;unfold aC at r0;by_cases hey:y=sn.data.toList
      ·have dN:(y == sn.toList)=true:=by rw[dQ,hey];simp
       have zB:Hid (Np.eJ o sn.data.toList=o):=jq (Qm o _ q OP HQ.out (by rw[HY.out];exact hey));clear hey;go_wp2_with (go_at_call 164;refine (HC.out _).mono ?_;rintro e w5 ⟨rfl,av⟩;have r0':=(av.cell (p:=⟨g,q,none⟩) (by have:=(oa.out.lt g rfl).2;dsimp only;omega)).trans r0;have cG:=jq (ca.out.trans (av.mono ub));clear av);go_roundw
       case rel=>exact⟨k+1,o,by omega,by go_num,by have:=cG.out.size;omega,jq (HB.out.trans (cG.out.mono vv)),jq (HO.out.keep cG.out),jq (by rw[qc.out,zB.out])⟩
       case measure=>simp[intOf] <;> omega
      ·have dN:(y == sn.toList)=false:=by rw[dQ];simpa using hey
       have zB:Hid (Np.eJ o sn.data.toList=o.take q++sn.data.toList::o.drop q):=jq (JQ o _ q (by omega) HQ.out (λh=>by rw[HY.out];exact⟨Tr.out,hey⟩));clear hey;obtain⟨N1,no⟩:=aJZ (o.length+1);have H0:=HN.out;have ai:IntKind.i64.wrap ((N1:Int) - 1)=(N:Int):=by rw[show (N1:Int) - 1=N by omega];simp[IntKind.wrap,IntKind.bits,IntKind.signed];omega
       have WB:N+1=N1:=by omega
       have mo:=jq no;clear no H0;go_wp2_with (first | (go_at_call 164;refine (HC.out _).mono ?_;rintro e w5 ⟨rfl,av⟩;have r0':=(av.cell (p:=⟨g,q,none⟩) (by have:=(oa.out.lt g rfl).2;dsimp only;omega)).trans r0;have cG:=jq (ca.out.trans (av.mono ub));have lL:Hid (cm X w5 _ o):=jq (HO.out.keep cG.out);have Ig:X<=w5.heap.size:=(by have:=cG.out.size;omega);clear av) | (at_builtin;refine yW _ rfl _ _ rfl X _ o rfl (lL.out.alloc _) w5.heap.size sn.data.toList (by simp[go_sem]) (by simp[go_sem]) (by have:=fJ.out;omega) (by simp;omega) ?_;intro v6 w6 ig aL;obtain⟨g6,cap6,rfl,BM⟩:=QG ig mo.out;have GB:=jq BM;have dj:=jq ((((cG.out.mono vv).alloc Ig _).trans aL));clear ig aL BM));have kf:X<=w6.heap.size:=by have:=dj.out.size;omega
       obtain⟨wj,Jp⟩:=aKQ w6;clear Jp;go_loopw [7] (λjv wi=>∃ (j:Nat) (z:List UInt8),q<=j/\j<=N/\jv = .int .i64 j/\X<=wi.heap.size/\Hid (Below X wo wi)/\Hid (wi.ownsRow X 9 1 (.slice (some ⟨g6,0,none⟩) N1 cap6) N1 ((o.take j++z::o.drop j).map aC))) (λjv _=>(intOf jv).toNat)
       case atStart=>exact⟨N,sn.data.toList,by omega,bQ _,rfl,kf,dj,jq (by rw[kQ (by rw[HN.out];exact bQ _),List.drop_eq_nil_of_le (by rw[HN.out];exact bQ _)];exact GB.out)⟩
       case round=>
        obtain⟨j,z,X4,IK,rfl,jF,CG,pm⟩:=hrel;have jD:j<=o.length:=by rw[HN.out];exact IK
        have DN:X<=g6/\g6<wr.heap.size:=pm.out.lt g6 rfl;have DV:wr.cell? ⟨g6,j,none⟩=some (aC z):=by rw[pm.out.cellAt j (by omega),List.getElem?_map,QW jD];rfl
        have Xh:wr.frozen? ⟨g6,j,none⟩=false:=pm.out.frozenAt j;have XA:(0:Int)<=(j:Int):=by omega
        have XB:(j:Int)<(N1:Int):=by omega
        have XC:j<N1:=by omega
        by_cases ON:q<j
        ·obtain⟨m,hm⟩:∃ m,j=m+1:=⟨j - 1,by omega⟩;have yt:m<o.length:=by omega
         obtain⟨u,hu⟩:∃ u,o[m]?=some u:=⟨_,aQ yt⟩;have yC:o[m]=u:=(cQ.1 hu).2;have gj:wr.cell? ⟨g6,m,none⟩=some (aC u):=by rw[pm.out.cellAt m (by omega),List.getElem?_map,asJ (by omega) jD,hu];rfl
         have hjw:IntKind.i64.wrap ((j:Int) - 1)=(m:Int):=by rw[show (j:Int) - 1=m by omega];simp[IntKind.wrap,IntKind.bits,IntKind.signed];omega
         have gU:(0:Int)<=(m:Int):=by omega
         have yq:(m:Int)<(N1:Int):=by omega
         have iz:m<N1:=by omega
         have NX:decide ((q:Int)<(j:Int))=true:=aLQ;have ck:Hid ((wr.setCell ⟨g6,j,none⟩ (aC u)).ownsRow X 9 1 (.slice (some ⟨g6,0,none⟩) N1 cap6) N1 ((o.take m++u::o.drop m).map aC)):=jq (by
          have h1:=(World.ownsRow.stored pm.out j (aC u)).1;rw[<-List.map_set] at h1;subst hm;rw[<-yC,asZ yt,yC] at h1;exact h1)
         have jM:Hid (Below X wo (wr.setCell ⟨g6,j,none⟩ (aC u))):=jq (CG.out.setCell DN.1 _);have X5:q<=m:=by omega
         have XN:m<=N:=by omega
         have Tn:Hid (m<j):=jq (by omega);clear hm hu yC;unfold aC at DV gj ck jM;go_wp2_with fail;go_roundw
         case rel=>exact⟨m,u,X5,XN,rfl,by simp;omega,jM,ck⟩
         case measure=>have:=Tn.out;simp[intOf] <;> omega
        ·have IL:j=q:=by omega
         subst IL;have NX:decide ((j:Int)<(j:Int))=false:=aKX;have ck:Hid ((wr.setCell ⟨g6,j,none⟩ (.string sn)).ownsRow X 9 1 (.slice (some ⟨g6,0,none⟩) N1 cap6) N1 ((o.take j++sn.data.toList::o.drop j).map aC)):=jq (by
          have h1:=(World.ownsRow.stored pm.out j (aC sn.data.toList)).1;rw[<-List.map_set,QU jD] at h1;exact h1)
         have jM:Hid (Below X wo (wr.setCell ⟨g6,j,none⟩ (.string sn))):=jq (CG.out.setCell DN.1 _);have sS:Hid ((o.take j++sn.data.toList::o.drop j).length=N1):=jq (by rw[QV jD];exact mo.out);unfold aC at DV;go_wp2_with fail;go_roundw
         case rel=>exact⟨k+1,_,by omega,by go_num,by simp;omega,jq (HB.out.trans jM.out),jq (by unfold cm;rw[sS.out];exact ck.out),jq (by rw[qc.out,zB.out])⟩
         case measure=>simp[intOf] <;> omega
    ·have Ek:q=N:=by omega
     have zB:Hid (Np.eJ o sn.data.toList=o.take q++sn.data.toList::o.drop q):=jq (JQ o _ q (by rw[HN.out];exact X3) HQ.out (λh=>by rw[HN.out] at h;omega));clear Ek;obtain⟨N1,no⟩:=aJZ (o.length+1);have H0:=HN.out;have ai:IntKind.i64.wrap ((N1:Int) - 1)=(N:Int):=by rw[show (N1:Int) - 1=N by omega];simp[IntKind.wrap,IntKind.bits,IntKind.signed];omega
     have WB:N+1=N1:=by omega
     have mo:=jq no;clear no H0;have cG:=ca;have lL:Hid (cm X wr _ o):=jq (HO.out.keep ca.out);have Ig:X<=wr.heap.size:=by omega
     go_wp2_with (first | (at_builtin;refine yW _ rfl _ _ rfl X _ o rfl (lL.out.alloc _) wr.heap.size sn.data.toList (by simp[go_sem]) (by simp[go_sem]) (by have:=fJ.out;omega) (by simp;omega) ?_;intro v6 w6 ig aL;obtain⟨g6,cap6,rfl,BM⟩:=QG ig mo.out;have GB:=jq BM;have dj:=jq ((((cG.out.mono vv).alloc Ig _).trans aL));clear ig aL BM));have kf:X<=w6.heap.size:=by have:=dj.out.size;omega
     obtain⟨wj,Jp⟩:=aKQ w6;clear Jp;go_loopw [7] (λjv wi=>∃ (j:Nat) (z:List UInt8),q<=j/\j<=N/\jv = .int .i64 j/\X<=wi.heap.size/\Hid (Below X wo wi)/\Hid (wi.ownsRow X 9 1 (.slice (some ⟨g6,0,none⟩) N1 cap6) N1 ((o.take j++z::o.drop j).map aC))) (λjv _=>(intOf jv).toNat)
     case atStart=>exact⟨N,sn.data.toList,by omega,bQ _,rfl,kf,dj,jq (by rw[kQ (by rw[HN.out];exact bQ _),List.drop_eq_nil_of_le (by rw[HN.out];exact bQ _)];exact GB.out)⟩
     case round=>
      obtain⟨j,z,X4,IK,rfl,jF,CG,pm⟩:=hrel;have jD:j<=o.length:=by rw[HN.out];exact IK
      have DN:X<=g6/\g6<wr.heap.size:=pm.out.lt g6 rfl;have DV:wr.cell? ⟨g6,j,none⟩=some (aC z):=by rw[pm.out.cellAt j (by omega),List.getElem?_map,QW jD];rfl
      have Xh:wr.frozen? ⟨g6,j,none⟩=false:=pm.out.frozenAt j;have XA:(0:Int)<=(j:Int):=by omega
      have XB:(j:Int)<(N1:Int):=by omega
      have XC:j<N1:=by omega
      by_cases ON:q<j
      ·exact absurd ON (by omega)
      ·have IL:j=q:=by omega
       subst IL;have NX:decide ((j:Int)<(j:Int))=false:=aKX;have ck:Hid ((wr.setCell ⟨g6,j,none⟩ (.string sn)).ownsRow X 9 1 (.slice (some ⟨g6,0,none⟩) N1 cap6) N1 ((o.take j++sn.data.toList::o.drop j).map aC)):=jq (by
        have h1:=(World.ownsRow.stored pm.out j (aC sn.data.toList)).1;rw[<-List.map_set,QU jD] at h1;exact h1)
       have jM:Hid (Below X wo (wr.setCell ⟨g6,j,none⟩ (.string sn))):=jq (CG.out.setCell DN.1 _);have sS:Hid ((o.take j++sn.data.toList::o.drop j).length=N1):=jq (by rw[QV jD];exact mo.out);unfold aC at DV;go_wp2_with fail;go_roundw
       case rel=>exact⟨k+1,_,by omega,by go_num,by simp;omega,jq (HB.out.trans jM.out),jq (by unfold cm;rw[sS.out];exact ck.out),jq (by rw[qc.out,zB.out])⟩
       case measure=>simp[intOf] <;> omega
  ·have HT:Hid (l.take k=l):=jq (kQ (by omega));go_wp2_with fail;go_ret;refine⟨_,rfl,?_,HB.out⟩;have h1:=HE.out;rw[HT.out] at h1;rw[h1];exact HO.out
end
section
open Go.RowKit Go.Sort Go.Shelf
theorem Wk{W w':World}(h:D.Below W.heap.size W w'):∃ q os,w'=grow (W.drewN q) os:=by
 refine⟨w'.drawn - W.drawn,w'.heap.extract W.heap.size w'.heap.size,?_⟩;have hh:w'.heap=W.heap++w'.heap.extract W.heap.size w'.heap.size:=by
  apply Array.ext_getElem?;intro j;rcases Nat.lt_or_ge j W.heap.size with h1 | h1
  ·rw[Array.getElem?_append_left h1];exact h.block j h1
  ·rw[Array.getElem?_append_right h1,Array.getElem?_extract];split
   ·congr 1;omega
   ·rw[Array.getElem?_eq_none (by omega)]
 have hd:w'.drawn=W.drawn+(w'.drawn - W.drawn):=by have:=h.drawn;omega
 have h1:=h.os;have h2:=h.tape;have h3:=h.output
 cases w'
 cases W
 simp only[grow,World.drewN,World.mk.injEq] at *;exact⟨hh,h2,hd,h1,h3⟩
abbrev VN:={ x:List UInt8 // Np.aG x=true }
instance:Inhabited VN:=⟨⟨[46],by decide⟩⟩
def qr(x:VN):Value:=aC x.1
def ls(x y:VN):Int:=Np.aI x.1 y.1
theorem axQ:SWO (ltOf ls) where
 irrefl x:=by unfold ltOf ls;rw[Np.eY.self];rfl
 trans x y z h1 h2:=by
  unfold ltOf ls at *;simp only[Qa] at *;exact Np.eY.trans _ _ _ h1 h2
 ntrans x y z h1 h2:=by
  unfold ltOf ls at *;simp only[decide_eq_false_iff_not] at *;intro h3;rcases Int.lt_trichotomy (Np.aI x.1 y.1) 0 with h4 | h4 | h4
  ·exact h1 h4
  ·have:=Np.eY.zero _ _ h4;rw[this] at h3;exact h2 h3
  ·have:=Np.eY.trans _ _ _ (Np.eY.anti' _ _ h4) h3
   exact h2 this
theorem ayQ(x y:VN)(h1:ltOf ls x y=false)(h2:ltOf ls y x=false):x=y:=by
 unfold ltOf ls at *;simp only[decide_eq_false_iff_not] at *;apply Subtype.ext;rcases Int.lt_trichotomy (Np.aI x.1 y.1) 0 with h4 | h4 | h4
 ·exact absurd h4 h1
 ·exact Np.eY.zero _ _ h4
 ·exact absurd (Np.eY.anti' _ _ h4) h2
theorem Rb{x:List UInt8}(h:Np.aG x=true):(⟨x.toArray⟩:ByteArray).size<=140737488355328:=by
 have:=qY h
 have e:(⟨x.toArray⟩:ByteArray).size=x.length:=by rw[<-bk]
 omega
theorem aGX(x y:VN)(w:World) :
 Calls prog 136 #[qr x,qr y] w λe w'=>e = .returned (.int .i64 (ls x y))/\D.Below w.heap.size w w':=by
 have hc:=D.compare_any ⟨x.1.toArray⟩ ⟨y.1.toArray⟩ (Rb x.2) (Rb y.2) w;have e1:(⟨x.1.toArray⟩:ByteArray).data.toList=x.1:=rfl;have e2:(⟨y.1.toArray⟩:ByteArray).data.toList=y.1:=rfl;have e3:D.cmpVal x.1 y.1 = .tuple #[.int .i64 (ls x y),.int .i64 0]:=by unfold D.cmpVal;rw[x.2,y.2];rfl
 rw[e1,e2,e3] at hc;have HC:=jq hc;clear hc e1 e2 e3;unfold qr aC;generalize ls x y=z at HC |-;go_enter func136,ntmps136;go_wp2_with (go_at_call 137;refine HC.out.mono ?_;rintro e w2 ⟨rfl,ac⟩;have ah:=jq ac;clear ac);go_ret;exact⟨rfl,ah.out⟩
theorem Xa(enc:VN->Value){w:World}{g n:Nat}{os:Array Obj}{cur:Array Value}{e:TypeId}{fr:Nat×Nat}(d:Array VN)(hb:w.heap[g]?=some (.cells cur e fr)) :
 (sortWorld enc w g 0 n d os).heap[g]?=some (.cells (putCells enc 0 d cur) e fr):=by
 have hl:g<w.heap.size:=(eQ.1 hb).1;unfold sortWorld;rw[heap_grow_old _ _ (by simpa [putRow,mapBlock,Sort.ahead] using hl)];simp[putRow,mapBlock,Sort.ahead,Array.getElem?_modify,hb,onCells]
theorem Wl(enc:VN->Value){w:World}{g n:Nat}{os:Array Obj}(d:Array VN):w.grownBy (sortWorld enc w g 0 n d os) (some g):=by
 unfold sortWorld;refine⟨rfl,rfl,rfl,by simp,λq hq hne=>?_⟩;rw[heap_grow_old _ _ (by simpa using hq)]
 have:g≠q:=λe=>hne (by rw[e])
 simp[putRow,mapBlock,Sort.ahead,Array.getElem?_modify,this]
theorem auZ(base:Nat)(v:Value)(xs:List (List UInt8))(w:World)(hown:cm base w v xs)(hv:∀ x∈xs,Np.aG x=true)(hl:xs.length<=100000) :
 Calls prog 135 #[v,.func (.func 136) #[] #[]] w λe w'=>e = .returned (.tuple #[])/\cm base w' v (Np.uk xs)/\w.grownBy w' v.ownBlock:=by
 obtain⟨ys,B3⟩:∃ ys:List VN,ys.map (·.1)=xs:=⟨xs.pmap (λx h=>⟨x,h⟩) hv,by rw[List.map_pmap];simp⟩;subst B3;have hs:Np.uk (ys.map (·.1))=(ys.mergeSort λx y=>!(ltOf ls) y x).map (·.1):=by
  unfold Np.uk;exact (List.map_mergeSort (r:=λx y:VN=>!(ltOf ls) y x) (s:=λa b=>!decide (Np.aI b a<0)) (f:=λx:VN=>x.1) (l:=ys) (λa _ b _=>rfl)).symm
 have kM:w.ownsRow base 9 1 v (ys.map (·.1)).length ((ys.map (·.1)).map aC):=hown;rw[List.length_map] at kM hl;rcases kM.2 with ⟨rfl,h0⟩ | ⟨g,cap,cur,rfl,dw,hb,h1,h2,h3,h4⟩
 ·have:ys = []:=rQ h0
  subst this;refine (Tryz.slices_SortFunc_none (α:=VN) none 0 _ w).mono ?_;intro e w' hh;obtain⟨rfl,rfl⟩:=hh;exact⟨rfl,by rw[hs];simpa using hown,⟨rfl,rfl,rfl,bQ _,λ_ _ _=>rfl⟩⟩
 have eg:∀ args w,(callFunc 136 args).run prog w = .ok (.enter 136 args) w:=enters_of func136 (by kernel_rfl) rfl;have hH:Holds qr w g 0 ys.toArray:=λj hj=>by
  have hj':j<ys.length:=by simpa using hj
  refine⟨?_,by simp[World.frozen?,hb]⟩
  have:=kM.cellAt j (by omega)
  rw[Nat.zero_add,this,List.getElem?_map,List.getElem?_map,aQ hj',getElem!_pos ys.toArray j hj];simp[qr]
 have AW:CmpLays1 prog 136 #[] qr ls g 0 ys.toArray.size w:=λm os dk _ x y=>(aGX x y _).mono λe w' ⟨he,hw⟩=>⟨he,Wk hw⟩;have DY:=Tryz.slices_SortFunc_total qr (λ_=>rfl) ls axQ 136 #[] g 0 cap ys.toArray w eg AW hH (eQ.1 hb).1 (by simp;omega) ayQ;have hlen:(ys.mergeSort λx y=>!(ltOf ls) y x).length=ys.length:=List.length_mergeSort _;rw[List.size_toArray] at DY;refine DY.mono λe w' ⟨he,n,os,hw⟩=>⟨he,?_,?_⟩
 ·subst hw;rw[hs];unfold cm;rw[List.length_map,hlen];refine⟨by simp,.inr ⟨g,cap,_,rfl,dw,Xa qr _ hb,h1,h2,by simp[putCells,h3],?_⟩⟩;apply List.ext_getElem?;intro j;by_cases hj:j<ys.length
  ·have tD:j<cur.size:=by omega
   have D6:j<(ys.mergeSort λx y=>!(ltOf ls) y x).length:=by omega
   rw[List.getElem?_take_of_lt (by omega),Array.getElem?_toList,List.getElem?_map,List.getElem?_map,aQ D6];simp[putCells,tD,hj,qr]
  ·rw[List.getElem?_take_eq_none (by omega),List.getElem?_eq_none (by simp;omega)]
 ·subst hw;exact Wl qr _
def fM(W:World)(B:Nat)(e:List Value)(h:Np.Hist):Prop:=∃ (hv cv:Value) (s:ByteArray) (dv dx:Value),e = [hv,cv,.string s,.int .i64 h.anchor.type,.int .i64 h.anchor.life,dv,dx,.int .i64 h.drift,.int .i64 h.stop]/\s.data.toList=h.anchor.name/\s.size<=140737488355328/\
 SlR lN 3 W B hv h.hosts/\SlR oq 5 W B cv h.copies/\SlR cA 3 W B dv h.anchor.data/\SlR iM 1 W B dx h.hints
theorem l9:dH fM:=λ_ _ _ _ _ ⟨hv,cv,s,dv,dx,h0,h1,h2,h3,h4,h5,h6⟩ hb=>⟨hv,cv,s,dv,dx,h0,h1,h2,h3.keep nR hb,h4.keep l7 hb,h5.keep bD hb,h6.keep kj hb⟩
theorem nP:eh fM:=λ_ _ _ _ _ ⟨hv,cv,s,dv,dx,h0,h1,h2,h3,h4,h5,h6⟩ hb=>⟨hv,cv,s,dv,dx,h0,h1,h2,h3.more wH hb,h4.more wE hb,h5.more bP hb,h6.more qT hb⟩
def Np.xb(h:Np.Hist):Prop:=h.copies.length<=500/\∀ c∈h.copies,c.zone.sets.length<=20000
theorem Mo{h:Np.Hist}(v:Np.VHist h):∀ x∈Np.cF (h.copies.map (·.zone.apex)),Np.aG x=true:=λx hx=>by
 obtain⟨c,hc,rfl⟩:=List.mem_map.1 (Np.wl.1 hx);have h1:=(v.each c hc).zone.right;unfold Np.eX at h1;simp only[Bool.and_eq_true] at h1;exact h1.1.1
theorem aGY(e:List Value)(h:Np.Hist)(hf:Np.xb h)(w:World)(hR:iv w w.heap.size)(hh:fM w w.heap.size e h) :
 Calls prog 60 #[.agg e.toArray] w λe w'=>((Np.VHist h/\∃ v',e = .returned (.tuple #[v',.int .i64 0])/\cm w.heap.size w' v' (Np.apexes h.copies))\/(¬ Np.VHist h/\e = .returned (.tuple #[.slice none 0 0,.int .i64 1])))/\Below w.heap.size w w':=by
 obtain⟨hv,cv,s,dv,dx,rfl,h1,h2,h3,h4,h5,h6⟩:=hh;obtain⟨hosts,copies,⟨name,ty,life,data⟩,hints,drift,stop⟩:=h;dsimp only at h1 h3 h4 h5 h6;subst h1;have H3:=jq h3;have H4:=jq h4;have H5:=jq h5;have H6:=jq h6;have jw:=jq hR;have ph:=jq hf;obtain⟨A1,c1,rfl,_,_⟩:=aj h3;obtain⟨A2,c2,rfl,_,_⟩:=aj h4;obtain⟨A3,c3,rfl,_,_⟩:=aj h5;obtain⟨A4,c4,rfl,_,_⟩:=aj h6;clear h3 h4 h5 h6 hR hf;obtain⟨r,hr⟩:=aJZ (Np.yes (Np.VHist ⟨hosts,copies,⟨s.data.toList,ty,life,data⟩,hints,drift,stop⟩));have pp:=jq hr;obtain⟨n1,bK⟩:=aJZ hosts.length;obtain⟨n2,bY⟩:=aJZ copies.length;obtain⟨n3,dF⟩:=aJZ data.length;obtain⟨n4,dY⟩:=aJZ hints.length;rw[bK] at H3 |-;rw[bY] at H4 |-;rw[dF] at H5 |-;rw[dY] at H6 |-;clear hr bK bY dF dY;obtain⟨X,hX⟩:=aJZ w.heap.size;have iK:=jq hX;obtain⟨W1,an⟩:=aJZ (w.alloc (.cells #[.slice A1 n1 c1,.slice A2 n2 c2,.string s,.int .i64 ty,.int .i64 life,.slice A3 n3 c3,.slice A4 n4 c4,.int .i64 drift,.int .i64 stop] 29));have aB:Below w.heap.size w W1:=by rw[<-an];exact (vQ _ _).alloc (bQ _) _
 have jF:W1.heap.size=w.heap.size+1:=by rw[<-an];simp
 have k0:W1.cell? ⟨X,0,none⟩=some (.slice A1 n1 c1):=by rw[<-an,<-hX];simp[go_sem]
 have k1:W1.cell? ⟨X,1,none⟩=some (.slice A2 n2 c2):=by rw[<-an,<-hX];simp[go_sem]
 have k2:W1.cell? ⟨X,2,none⟩=some (.string s):=by rw[<-an,<-hX];simp[go_sem]
 have k3:W1.cell? ⟨X,3,none⟩=some (.int .i64 ty):=by rw[<-an,<-hX];simp[go_sem]
 have k4:W1.cell? ⟨X,4,none⟩=some (.int .i64 life):=by rw[<-an,<-hX];simp[go_sem]
 have k5:W1.cell? ⟨X,5,none⟩=some (.slice A3 n3 c3):=by rw[<-an,<-hX];simp[go_sem]
 have k6:W1.cell? ⟨X,6,none⟩=some (.slice A4 n4 c4):=by rw[<-an,<-hX];simp[go_sem]
 have k7:W1.cell? ⟨X,7,none⟩=some (.int .i64 drift):=by rw[<-an,<-hX];simp[go_sem]
 have k8:W1.cell? ⟨X,8,none⟩=some (.int .i64 stop):=by rw[<-an,<-hX];simp[go_sem]
 rw[hX] at aB jF H3 H4 H5 H6 jw |-;have aO:=jq aB;clear aB;go_enter func60,ntmps60;go_wp2_with fail;refine (Ok _ hosts _ copies s h2 ty life _ data _ hints drift stop ph.out.1 ph.out.2 _ ((jw.out.keep aO.out).more (by omega)) ((H3.out.keep nR aO.out).more wH (by omega)) ((H4.out.keep l7 aO.out).more wE (by omega)) ((H5.out.keep bD aO.out).more bP (by omega)) ((H6.out.keep kj aO.out).more qT (by omega))).mono ?_;rintro e w2 ⟨rfl,ac⟩;have aN:=ac.size;have m1:w2.cell? ⟨X,1,none⟩=some (.slice A2 n2 c2):=aIZ ac k1;have ah:=aIX aO ac;clear ac an k0 k1 k2 k3 k4 k5 k6 k7 k8 hX;rw[pp.out]
 cases r with
 | false=>
  have HN:Hid (¬ Np.VHist ⟨hosts,copies,⟨s.data.toList,ty,life,data⟩,hints,drift,stop⟩):=jq (λh=>by have:=Np.cu h;rw[pp.out] at this;cases this);go_wp2_with fail;go_ret2;exact⟨.inr ⟨HN.out,rfl⟩,ah.out⟩
 | true=>
  have HV:Hid (Np.VHist ⟨hosts,copies,⟨s.data.toList,ty,life,data⟩,hints,drift,stop⟩):=jq (Np.f8.1 pp.out);have qg:Hid (copies.length<=500):=jq ph.out.1;go_wp2_with fail;refine (Rm _ copies (by have:=qg.out;omega) _ ((H4.out.keep l7 ah.out).more wE (by omega))).mono ?_;rintro e w3 ⟨v3,rfl,jl,ak⟩;have gV:=ak.size;have iq:=jq jl;have aA:=aIX ah ak;clear jl ak;go_wp2_with fail;refine (auZ w2.heap.size _ _ _ iq.out (Mo HV.out) (by have:=Np.wO (copies.map (·.zone.apex));rw[List.length_map] at this;have:=qg.out;omega)).mono ?_;rintro e w4 ⟨rfl,ka,Od⟩;have H4':=jq (And.intro (cm.weak ka (show X<=w2.heap.size by omega)) (aA.out.grown Od (by omega) (λq hq=>by have:=(World.ownsRow.lt iq.out q hq).1;omega)));clear ka Od;go_wp2_with fail;go_ret2;exact⟨.inl ⟨HV.out,_,rfl,H4'.out.1⟩,H4'.out.2⟩
end
end Go.Proofs.YtfnopgdcaanaiaaGreatDoor
