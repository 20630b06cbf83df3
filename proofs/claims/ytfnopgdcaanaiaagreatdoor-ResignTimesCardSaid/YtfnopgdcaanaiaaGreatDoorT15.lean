/- Parts of the proof. No condition. -/
import Derived.Lib.LazyBuf
import Derived.Test.YtfnopgdcaanaiaaGreatDoorT10
set_option linter.all false
set_option maxRecDepth 100000
set_option maxHeartbeats 8000000
namespace Go.Proofs.YtfnopgdcaanaiaaGreatDoor
open Go.Proofs.Tryz
section
open Go.RowKit Go.Shelf
attribute [local go_sem] Oper.semAt_some
theorem fV.block{w w':World}{B:Nat}{xs:List (List UInt8)}(h:fV w B xs)(hb:w'.heap[B]?=w.heap[B]?):fV w' B xs:=λj x hx=>by
 obtain⟨s,h1,h2,h3,h4⟩:=h j x hx;refine⟨s,h1,h2,(iQ (a:=⟨B,j,none⟩) hb).trans h3,?_⟩;rw[<-h4];simp only[World.frozen?,hb]
def G8(w:World)(M b5 b6:Nat)(pre:List (List UInt8))(S:Nat->Prop)(W:World):Prop:=
 (∀ k,S k↔k=M\/k=b5\/k=b6)/\Boxed W b5 116 (.slice (some ⟨M,0,none⟩) 8 8)/\Boxed W b6 3 (.int .i64 ((8 - pre.length:Nat):Int))/\pre.length<=8/\Hid (fV W M (List.replicate (8 - pre.length) []++pre.reverse))/\M<W.heap.size/\Below w.heap.size w W
theorem Ky(w:World)(M b5 b6:Nat)(B:Nat)(hB:w.heap.size<=B):dE B (G8 w M b5 b6):=by
 rintro s S W W' ⟨hS,h1,h2,h3,h4,h6,h5⟩ ak;refine⟨hS,fd h1 ak ((hS _).2 (.inr (.inl rfl))),fd h2 ak ((hS _).2 (.inr (.inr rfl))),h3,jq (h4.out.block ?_),lQ h6 ak.size,oV h5 ak hB (bQ _)⟩;exact ak.keep _ h6 (.inr ((hS _).2 (.inl rfl)))
theorem UI{p:Nat}{pre:List (List UInt8)}{x:List UInt8}(hp:pre.length=p)(h8:p<8):(List.replicate (8 - p) []++pre.reverse).set (8 - (p+1)) x=List.replicate (8 - (p+1)) []++(pre ++ [x]).reverse:=by
 have e:List.replicate (8 - p) ([]:List UInt8)=List.replicate (8 - (p+1)) [] ++ [[]]:=by
  rw[show 8 - p=(8 - (p+1))+1 by omega,List.replicate_succ']
 rw[e,List.append_assoc,List.set_append_right _ _ (by rw[List.length_replicate];exact bQ _),List.length_replicate,Nat.sub_self,List.reverse_append];rfl
theorem Dq:∀ (xs:List (List UInt8)) (n:Nat) (b:Bool),Np.dF xs n b=true->n<=8->n+xs.length<=8
 | [],n,b,_,h=>by simpa using h
 | x::xs,n,b,h,hn=>by
   unfold Np.dF at h;split at h
   ·cases h
   ·rename_i hc;simp only[Bool.or_eq_true,Qa,not_or] at hc;rw[List.length_cons];split at h
    ·have:=Dq xs (n+1) true h (by omega);omega
    ·split at h
     ·have:=Dq xs (n+1) false h (by omega);omega
     ·cases h
theorem PQ{l:List UInt8}(h:Np.aG l=true):(Np.back l).length<=8:=by
 unfold Np.back;split
 ·simp
 ·rename_i hd;unfold Np.aG at h;rw[Qc hd] at h;split at h
  ·cases h
  ·have:=Dq _ 0 false h (by omega)
   omega
theorem UM(t:ByteArray)(hv:Np.aG t.data.toList=true)(w:World) :
 Calls prog 187 #[.string t] w λe w'=>(∃ v,e = .returned (.tuple #[v,.int .i64 0])/\SlR RTx 1 w' w'.heap.size v (Np.lY t.data.toList))/\Below w.heap.size w w':=by
 have ht:t.size<=60:=Vn hv;have tW:Hid ((Np.back t.data.toList).length<=8):=jq (PQ hv);have HV:=jq hv;clear hv;have f9:∀ w:World,(Instr.makeSlice 116 (.int .i64 8) (.int .i64 8)).run prog w = .ok (.slice (some ⟨w.heap.size,0,none⟩) 8 8) (w.alloc (.cells (madeCells #[Value.string ⟨#[]⟩] 8) 9)):=λw=>KE 8 (by decide) w;have HZ:Hid (∀ j,j<8->(madeCells #[Value.string ⟨#[]⟩] 8)[j]?=some (.string ⟨#[]⟩)):=jq (λj hj=>KD _ _ hj);generalize madeCells #[Value.string ⟨#[]⟩] 8=Z at f9 HZ;refine (callsIn_wide (n:=0)).1 ?_;refine callsIn_of_wp_marks func187 rfl trivial ?_ rfl;simp only[ntmps187,List.size_toArray,List.length_cons,List.length_nil,Nat.reduceAdd,Nat.reduceSub,Array.replicate_succ,Array.replicate_zero,List.push_toArray,List.append_toArray,List.nil_append,List.cons_append];gi_wp2_with fail;refine⟨trivial,rfl,?_⟩;refine (callsIn_wide.2 (valid_any t (by omega) _)).mono ?_;rintro e w1 ⟨rfl,aq⟩;rw[HV.out];have aD:=jq aq;have aK:=aq.size;clear aq;gi_wp2_with fail;have b5:=Boxed.new (w1.alloc (.cells Z 9)) 116 (.slice (some ⟨w1.heap.size,0,none⟩) 8 8);have b6:=Boxed.new ((w1.alloc (.cells Z 9)).alloc (.cells #[.slice (some ⟨w1.heap.size,0,none⟩) 8 8] 116)) 3 (.int .i64 8);simp only[World.size_alloc] at b5 b6;have uV:fV (w1.alloc (.cells Z 9)) w1.heap.size (List.replicate 8 []):=λj x hx=>by
  rw[List.getElem?_replicate] at hx;split at hx
  ·rename_i hj
   cases hx
   exact⟨⟨#[]⟩,rfl,by decide,by simp[go_sem];exact HZ.out j hj,by simp[go_sem]⟩
  ·cases hx
 refine xL (n₀:=w.heap.size) (w0:=w) (first:=#[.string t]) (captured:=#[]) (gf:=215) rfl (enters_of func215 (by kernel_rfl) rfl) (mk:=λy=>#[.string t,y]) (λ_=>rfl)
  (yZ t (by omega) _ w) (aD.out.trans ((((vQ _ w1).alloc (bQ _) _).alloc (by simp) _).alloc (by simp;omega) _ |>.mono aK)) (by simp;omega) (λ_=>rfl) (G8 w w1.heap.size (w1.heap.size+1) (w1.heap.size+1+1)) (λ_ _ _ _=>False)
  (Ky _ _ _ _ _ (by simp;omega)) (λc s S W W' h _=>h)
  (λk=>k=w1.heap.size\/k=w1.heap.size+1\/k=w1.heap.size+1+1) (by intro k h;omega) (by intro k h;simp;omega)
  ⟨λ_=>Iff.rfl,b5.alloc _,b6,by simp,jq ((uV.keep (((vQ _ _).alloc (bQ _) _).alloc (by simp) _) (by simp))),by simp;omega,aD.out.trans ((((vQ _ w1).alloc (bQ _) _).alloc (by simp) _).alloc (by simp;omega) _ |>.mono aK)⟩ ?round ?done ?stop
 case round=>
  rintro l0 pre x S W aJ hI eh;gi_wp2;refine⟨S,RdStep.refl _ _,λk e=>.inl e,eh,?_⟩;intro l W₂ ak;obtain⟨hS,c5,c6,h8,hrow,DH,hB⟩:=Ky w _ _ _ _ (by simp;omega) pre S W W₂ hI ak;have sW:pre.length+1<=8:=by
   have:=aJ.length_le
   have h9:=tW.out;simp at this;omega
  have hx:x∈Np.back t.data.toList:=aJ.subset (by simp);have pK:x.length<=60:=by have:=Np.yY hx;rw[bG] at this;omega
  have dI:∀ k,S k->k<W₂.heap.size:=λk e=>lQ (eh k e) ak.size;obtain⟨j,hj⟩:∃ j,8 - (pre.length+1)=j:=⟨_,rfl⟩;have hq:((8 - pre.length:Nat):Int)=((j+1:Nat):Int):=by omega
  rw[hq] at c6;have ZU:j<8:=by omega
  obtain⟨sz,_,_,Sh,qN⟩:=hrow.out j [] (by rw[List.getElem?_append_left (by rw[List.length_replicate];omega),List.getElem?_replicate,Qb (by omega)]);have jS:Hid (∀ W',fV W' w1.heap.size (List.replicate (8 - pre.length) []++pre.reverse)->fV (W'.setCell ⟨w1.heap.size,j,none⟩ (aM x)) w1.heap.size (List.replicate (8 - (pre ++ [x]).length) []++(pre ++ [x]).reverse)):=jq (λW' hW=>by
   have h1:=hW.store (k:=j) (by rw[List.length_append,List.length_replicate,List.length_reverse];omega) ⟨x.toArray⟩ (by rw[<-bG];simp;omega);have e:((⟨x.toArray⟩:ByteArray).data.toList)=x:=by simp
   rw[e,<-hj,UI rfl (by omega)] at h1;rw[List.length_append,List.length_singleton,<-hj];exact h1)
  have HOLD:=jq hrow.out;have iB:=jq c5;have oz:=jq c6;have c5c:=c5.cell;have c6c:=c6.cell;have c5f:=c5.frozen;have c6f:=c6.frozen;have am:IntKind.i64.wrap (((j+1:Nat):Int) - 1)=(j:Int):=by rw[IntWalk.i64_in _ (by omega)];omega
  have Ac:(0:Int)<=(j:Int):=by omega
  have Ae:(j:Int)<8:=by omega
  have HJ:=jq hj;clear hx hq aJ hI hrow c5 c6 hj;have hlen:8 - (pre ++ [x]).length=j:=by rw[List.length_append,List.length_singleton];exact HJ.out
  have Gj:=jq hlen;clear hlen;gi_wp2;refine⟨S,((RdStep.refl S W₂).setCell (p:=⟨w1.heap.size+1+1,0,none⟩) (.inl ((hS _).2 (.inr (.inr rfl)))) _).setCell (p:=⟨w1.heap.size,j,none⟩) (.inl ((hS _).2 (.inl rfl))) _,λ_ e=>.inl e,λk e=>by have:=dI k e;simp[World.setCell];omega,hS,?_,?_,by rw[List.length_append,List.length_singleton];omega,jq (jS.out _ (HOLD.out.other (by simp <;> omega) _)),by simpa using DH,(hB.setCell (p:=⟨w1.heap.size+1+1,0,none⟩) (by simp;omega) _).setCell (p:=⟨w1.heap.size,j,none⟩) (by simpa using aK) _⟩
  ·exact bn (bn iB.out (p:=⟨w1.heap.size+1+1,0,none⟩) (by simp) _) (p:=⟨w1.heap.size,j,none⟩) (by simp) _
  ·rw[Gj.out];exact bn (oz.out.set _) (p:=⟨w1.heap.size,j,none⟩) (by simp <;> omega) _
 case done=>
  rintro D S W hD dH aF ⟨hS,c5,c6,h8,hrow,DH,hB⟩ hK;have c5c:=c5.cell;have c6c:=c6.cell;obtain⟨n,hn⟩:=abY ((Np.back t.data.toList).length);rw[hn] at c6c h8;obtain⟨q,hq⟩:∃ q,8 - n=q:=⟨_,rfl⟩;rw[hq] at c6c;have vV:q<=8:=by omega
  have lP:(0:Int)<=(q:Int):=by omega
  have vS:(q:Int)<=8:=by omega
  have HN:=jq hn;have HQ:=jq hq;have Ow:Hid (w1.heap.size≠D):=jq (λe=>dH ((hS _).2 (.inl e.symm)));have jS:=jq hrow.out;have GE:Hid (Np.lY t.data.toList=(Np.back t.data.toList).reverse):=jq (by rw[<-Np.EW,List.reverse_reverse]);have CQ:Hid (∀ x∈Np.back t.data.toList,x.length<=140737488355328):=jq (λx hx=>by have:=Np.yY hx;rw[bG] at this;omega);clear hrow;by_cases jJ:n=0
  ·have Tp:q=8:=by omega
   have OF:Hid (Np.lY t.data.toList = []):=jq (by rw[GE.out,rQ (HN.out.trans jJ)];rfl);clear hn hq c5 c6 jJ;subst Tp;gi_wp2;exact kH hK (v:=.tuple #[.slice (some ⟨w1.heap.size,0,none⟩) 0 0,.int .i64 0]) (by simp[results,results187,go_sem]) ⟨⟨_,rfl,by rw[OF.out];exact⟨_,_,rfl,by simp,by simp,λi x hx=>by simp at hx⟩⟩,kE hB (by have:=aD.out.size;simp at hD;omega) _⟩
  ·have vU:q<8:=by omega
   have acZ:(q:Int)<8:=by omega
   have ji:¬ q=8:=by omega
   have nl:Hid (8 - q=n):=jq (by omega);have Ao:8 - q=n:=by omega
   clear hn hq c5 c6 jJ;gi_wp2;refine kH hK (v:=.tuple #[.slice (some ⟨w1.heap.size,q,none⟩) n n,.int .i64 0]) (by simp[results,results187,go_sem]) ⟨⟨_,rfl,?_⟩,kE hB (by have:=aD.out.size;simp at hD;omega) _⟩;have hr:fV (W.putObj D (.deferred none)) w1.heap.size (List.replicate (8 - (Np.back t.data.toList).length) []++(Np.back t.data.toList).reverse):=jS.out.block (zQ Ow.out);rw[GE.out];have sT:(Np.back t.data.toList).reverse.length=n:=by rw[List.length_reverse];exact HN.out
   refine⟨_,n,by rw[sT],by omega,by omega,λi x hx=>?_⟩;have hin:=(cQ.1 hx).1;obtain⟨s,h1,h2,h3,_⟩:=hr (q+i) x (by rw[HN.out,HQ.out,oQ (by rw[List.length_replicate];omega),List.length_replicate,show q+i - q=i by omega];exact hx);refine⟨w1.heap.size,q,[.string s],rfl,by simpa using DH,rfl,λj v hv=>?_,s,h1,h2,rfl⟩
   match j,hv with
   | 0,hv=>cases hv;simpa using h3
 case stop=>
  rintro D c pre S W hD dH aF fM h hK;exact h.elim
theorem Yr(s:ByteArray)(h:Np.aG s.data.toList=true)(w:World) :
 Calls prog 246 #[.string s] w (agQ w.heap.size w (.bool (Np.eU s.data.toList))):=by
 have hw:=Yq h;obtain⟨ps,eS⟩:=abY (Np.lY s.data.toList);obtain⟨r,hr⟩:=abY (ps.head? == some [42]);rw[hw,eS,hr];have qj:=jq eS;have HR:=jq hr;have HV:=jq h;clear hw h eS hr;go_enter func246,ntmps246;go_wp2_with fail;refine (UM s HV.out _).mono ?_;rw[qj.out];rintro e w1 ⟨⟨v,rfl,hv⟩,hb⟩;have HB:=jq hb;clear hb;obtain⟨A,c,rfl,hc,hl,he⟩:=hv
 cases ps with
 | nil=>
  have HX:Hid (r=false):=jq (by rw[<-HR.out];rfl);go_wp2_with fail;go_ret;exact⟨aj HX.out.symm,HB.out⟩
 | cons x xs=>
  obtain⟨b,o,e,rfl,bC,_,hce,sx,pF,_,rfl⟩:=he 0 x rfl;have h0:w1.cell? ⟨b,o,none⟩=some (.string sx):=by have:=hce 0 _ rfl;simpa using this
  obtain⟨q,hq⟩:=abY (sx.toList == [42]);have HX:Hid (q=r):=jq (by rw[<-HR.out,<-hq,dQ,pF,List.head?_cons,Bool.eq_iff_iff];simp);obtain⟨n,hn⟩:=abY ((x::xs).length);have jJ:0<n:=by rw[<-hn];simp
  have hnI:(0:Int)<(n:Int):=by omega
  rw[hn];clear he hce hc hl hn pF
  cases q with
  | true=>
   go_wp2_with fail;go_ret;exact⟨aj HX.out,HB.out⟩
  | false=>
   go_wp2_with fail;go_ret;exact⟨aj HX.out,HB.out⟩
end
section
open Go.RowKit
def lA(_:World)(_:Nat)(e:List Value)(x:Np.Host):Prop:=∃ s:ByteArray,s.data.toList=x.name/\s.size<=140737488355328/\e = [.string s,.int .i64 x.addr,.int .i64 x.owner]
theorem ry:cj lA:=λ_ _ _ _ _ h _=>h
theorem xw:cB lA:=λ_ _ _ _ _ h _=>h
theorem Tl{w:World}{B n c:Nat}{A:Option Addr}{xs:List Np.Host}(h:SlR lA 3 w B (.slice A n c) xs){k:Nat}{x:Np.Host}(hx:xs[k]?=some x):∃ (b o:Nat) (s:ByteArray),A=some ⟨b,o,none⟩/\b<B/\s.data.toList=x.name/\s.size<=140737488355328/\w.cell? ⟨b,o+k * 3,none⟩=some (.string s)/\w.cell? ⟨b,o+k * 3+1,none⟩=some (.int .i64 x.addr)/\w.cell? ⟨b,o+k * 3+2,none⟩=some (.int .i64 x.owner):=by
 obtain⟨A',c',hv,hc,_,he⟩:=h;simp only[Value.slice.injEq] at hv;obtain⟨rfl,_,_⟩:=hv;obtain⟨b,o,e,rfl,hb,_,hce,s,h1,h2,rfl⟩:=he k x hx;exact⟨b,o,s,rfl,hb,h1,h2,by have:=hce 0 _ rfl;simpa using this,hce 1 _ rfl,hce 2 _ rfl⟩
theorem rl{w:World}{B n c:Nat}{A:Option Addr}{xs:List Int}(h:SlR eK 1 w B (.slice A n c) xs){k:Nat}{x:Int}(hx:xs[k]?=some x):∃ (b o:Nat),A=some ⟨b,o,none⟩/\b<B/\w.cell? ⟨b,o+k,none⟩=some (.int .i64 x):=by
 obtain⟨A',c',hv,hc,_,he⟩:=h;simp only[Value.slice.injEq] at hv;obtain⟨rfl,_,_⟩:=hv;obtain⟨b,o,e,rfl,hb,_,hce,rfl⟩:=he k x hx;exact⟨b,o,rfl,hb,by have:=hce 0 _ rfl;simpa using this⟩
def Np.i8(n:Int):Bool:=decide (1<=n)&&decide (n<=1000000)
theorem Fk(n:Int)(w:World) :
 Calls prog 247 #[.int .i64 n] w (agZ w (.bool (Np.i8 n))):=by
 obtain⟨r,hr⟩:=abY (Np.i8 n);rw[hr];by_cases h1:1<=n
 ·by_cases h2:n<=1000000
  ·have HX:Hid (r=true):=jq (by rw[<-hr];simp[Np.i8,h1,h2]);clear hr;go_enter func247,ntmps247;go_wp2_with fail;go_ret;exact⟨aj HX.out.symm,rfl⟩
  ·have HX:Hid (r=false):=jq (by rw[<-hr];simp[Np.i8,h2]);clear hr;go_enter func247,ntmps247;go_wp2_with fail;go_ret;exact⟨aj HX.out.symm,rfl⟩
 ·have HX:Hid (r=false):=jq (by rw[<-hr];simp[Np.i8,h1]);clear hr;go_enter func247,ntmps247;go_wp2_with fail;go_ret;exact⟨aj HX.out.symm,rfl⟩
theorem He(a:Int):∀ l:List Np.Host,(((l.map λh=>(h.addr,Value.bool true)).lookup a).getD (.bool false) = .bool (decide (a∈l.map (·.addr))))/\(a∉l.map (·.addr)->(l.map λh=>(h.addr,Value.bool true)).lookup a=none)
 | []=>⟨rfl,λ_=>rfl⟩
 | h::l=>by
   obtain⟨i1,i2⟩:=He a l;rw[List.map_cons,List.map_cons];by_cases e:a=h.addr
   ·subst e;rw[List.lookup_cons_self];exact⟨by simp,λhn=>absurd (by simp) hn⟩
   ·have hb:(a == h.addr)=false:=by simpa using e
    rw[List.lookup_cons,hb];exact⟨by rw[i1];simp[e],λhn=>i2 λhm=>hn (mQ _ hm)⟩
theorem X7(v:Value)(l:List Np.Host)(w:World)(hd:SlR lA 3 w w.heap.size v l) :
 Calls prog 180 #[v] w (agQ w.heap.size w (.bool (Np.yes (Np.VHosts l)))):=by
 obtain⟨r,hr⟩:=abY (Np.yes (Np.VHosts l));rw[hr];have HR:=jq hr;have HD:=jq hd;obtain⟨A,c,rfl,aT,cu⟩:=ar hd;clear hr hd;by_cases Du:l.length<=64
 ·have ME:=jq Du;have sO:∀ (w:World),(Instr.makeMap 298 none).run prog w = .ok (.map (some w.heap.size)) (w.alloc (.map #[] 0)):=λw=>by
   simp[Instr.makeMap,Result.andThen]
  go_enter func180,ntmps180;go_wp2_with fail;have qg:=jq (jV.made w);have aq:Below w.heap.size w (w.alloc (.map #[] 0)):=(vQ _ w).alloc (bQ _) _;have aD:=jq aq;have aK:w.heap.size<(w.alloc (.map #[] 0)).heap.size:=by simp
  clear aq;generalize w.alloc (.map #[] 0)=w1 at *;go_loopw [12] (λi wr=>∃ k:Nat,k<=l.length/\i = .int .i64 k/\Hid (Below w.heap.size w wr)/\w.heap.size<wr.heap.size/\Hid (jV w.heap.size ((l.take k).map λh=>(h.addr,Value.bool true)) wr)/\Hid (∀ j x,j<k->l[j]?=some x->Np.HostOk x)/\Hid (((l.take k).map (·.addr)).Nodup)) (λi _=>l.length - (intOf i).toNat)
  case atStart=>exact⟨0,jQ _,rfl,aD,aK,qg,jq (λj x hj=>by omega),jq (by simp)⟩
  case round=>
   obtain⟨k,hk,rfl,HB,cg,HM,HA,Gw⟩:=hrel;by_cases aa:k<l.length
   ·obtain⟨x,ac⟩:∃ x,l[k]?=some x:=⟨_,aQ aa⟩;obtain⟨b,o,sn,rfl,du,aP,eT,f0,f1,f2⟩:=Tl (HD.out.keep ry HB.out) ac;have ht:l.take (k+1)=l.take k ++ [x]:=by
     obtain⟨hl,he⟩:=cQ.1 ac;rw[fQ hl,he]
    have HT:=jq ht;have HN:Hid (Np.HostOk x->∀ j y,j<k+1->l[j]?=some y->Np.HostOk y):=jq (λh j y hj hy=>by
     by_cases e:j=k
     ·subst e;rw[ac] at hy;cases hy;exact h
     ·exact HA.out j y (by omega) hy)
    have HF:Hid (¬ Np.HostOk x->r=false):=jq (λh=>by rw[<-HR.out];exact Np.bP λq=>h (q.each x (gQ ac)));have B9:Hid (x.addr∈(l.take k).map (·.addr)->r=false):=jq (λh=>by
     rw[<-HR.out];refine Np.bP λq=>?_;have h1:=q.addrs;have h2:(l.take (k+1)).map (·.addr) <+: l.map (·.addr):=by rw[List.map_take];exact List.take_prefix _ _
     have h3:=h1.sublist h2.sublist;rw[ht,List.map_append,List.nodup_append] at h3;exact h3.2.2 x.addr h x.addr (by simp) rfl)
    have cK:=jq aP;have fS:Hid (∀ o,Below wr.heap.size wr (wr.alloc o)):=jq (λo=>(vQ _ _).alloc (bQ _) _);obtain⟨w2,az⟩:=abY (wr.alloc (.cells #[.string sn,.int .i64 x.addr,.int .i64 x.owner] 101));have ab:Below wr.heap.size wr w2:=by rw[<-az];exact fS.out _
    have p0:w2.cell? ⟨wr.heap.size,0,none⟩=some (.string sn):=by rw[<-az];simp[go_sem]
    have p1:w2.cell? ⟨wr.heap.size,1,none⟩=some (.int .i64 x.addr):=by rw[<-az];simp[go_sem]
    have p2:w2.cell? ⟨wr.heap.size,2,none⟩=some (.int .i64 x.owner):=by rw[<-az];simp[go_sem]
    have aC:wr.heap.size<w2.heap.size:=by rw[<-az];simp
    have ai:=jq ab;clear ac aP ht ab;go_wp2_with fail;clear az f0 f1 f2;refine (nameValid_any sn eT _).mono ?_;rintro e w3 ⟨rfl,ae⟩;have gh:=ae.size;have ay:=aaK ai ae;replace p0:w3.cell? ⟨wr.heap.size,0,none⟩=some (.string sn):=(ae.cell (by simpa using aC)).trans p0;replace p1:w3.cell? ⟨wr.heap.size,1,none⟩=some (.int .i64 x.addr):=(ae.cell (by simpa using aC)).trans p1;replace p2:w3.cell? ⟨wr.heap.size,2,none⟩=some (.int .i64 x.owner):=(ae.cell (by simpa using aC)).trans p2;clear ae
    cases rc:Np.aG sn.data.toList with
    | false=>
     have HX:Hid (r=false):=jq (HF.out λh=>by have:=h.name;rw[<-cK.out,rc] at this;cases this);clear rc;go_wp2_with fail;go_ret;exact⟨aj HX.out.symm,HB.out.trans (ay.out.acJ)⟩
    | true=>
     have iZ:=jq rc;clear rc;go_wp2_with fail;refine (Yr sn iZ.out _).mono ?_;rintro e w4 ⟨rfl,ah⟩;have gX:=ah.size;have bl:=aaK ay ah;replace p1:=aaJ ah p1;replace p2:=aaJ ah p2;clear ah p0
     cases AN:Np.eU sn.data.toList with
     | true=>
      have HX:Hid (r=false):=jq (HF.out λh=>by have:=h.wild;rw[<-cK.out,AN] at this;cases this);clear AN;go_wp2_with fail;go_ret;exact⟨aj HX.out.symm,HB.out.trans (bl.out.acJ)⟩
     | false=>
      have Pg:=jq AN;clear AN;by_cases px:x.owner<0
      ·have HX:Hid (r=false):=jq (HF.out λh=>by have:=h.owner;omega);go_wp2_with fail;go_ret;exact⟨aj HX.out.symm,HB.out.trans (bl.out.acJ)⟩
      ·have g1:decide (x.owner<0)=false:=by simpa using px
       by_cases dK:32<=x.owner
       ·have g2:decide (32<=x.owner)=true:=by simpa using dK
        have HX:Hid (r=false):=jq (HF.out λh=>by have:=h.owner;omega);go_wp2_with fail;go_ret;exact⟨aj HX.out.symm,HB.out.trans (bl.out.acJ)⟩
       ·have g2:decide (32<=x.owner)=false:=by simpa using dK
        have iY:Hid (0<=x.owner/\x.owner<=31):=jq (by omega);clear px dK
        cases qG:Np.i8 x.addr with
        | false=>
         have HX:Hid (r=false):=jq (HF.out λh=>by have:=h.addr;simp[Np.i8] at qG;omega);have HC:Hid (∀ w,Calls prog 247 #[.int .i64 x.addr] w λe w'=>e = .returned (.bool false)/\w=w'):=jq (λw=>by rw[<-qG];exact Fk _ _);clear qG;go_wp2_with (go_at_call 247;refine (HC.out _).mono ?_;rintro e w' ⟨rfl,rfl⟩);go_ret;exact⟨aj HX.out.symm,HB.out.trans (bl.out.acJ)⟩
        | true=>
         have dO:Hid (Np.HostOk x):=jq ⟨by rw[<-cK.out];exact iZ.out,by rw[<-cK.out];exact Pg.out,by simp[Np.i8] at qG;exact qG,iY.out⟩;have HC:Hid (∀ w,Calls prog 247 #[.int .i64 x.addr] w λe w'=>e = .returned (.bool true)/\w=w'):=jq (λw=>by rw[<-qG];exact Fk _ _);have cJ:Hid (jV w.heap.size ((l.take k).map λh=>(h.addr,Value.bool true)) w4):=jq (HM.out.keep bl.out cg);obtain⟨Al,Ed⟩:=He x.addr (l.take k);have gd:=WV (P:=prog) w4 298 3 4 underlying298 underlying3 w.heap.size _ cJ.out x.addr (.bool false) (by kernel_rfl);rw[Al] at gd;clear qG Al;by_cases hin:x.addr∈(l.take k).map (·.addr)
         ·have HX:Hid (r=false):=jq (B9.out hin);rw[uQ hin] at gd;clear hin Ed;go_wp2_with (go_at_call 247;refine (HC.out _).mono ?_;rintro e w' ⟨rfl,rfl⟩);go_ret;exact⟨aj HX.out.symm,HB.out.trans (bl.out.acJ)⟩
         ·have oK:=jq (Ed hin);have OC:Hid (((l.take (k+1)).map (·.addr)).Nodup):=jq (by
           rw[HT.out,List.map_append,List.nodup_append];refine⟨Gw.out,by simp,λy hy z hz e=>?_⟩;simp at hz;exact hin (by rw[<-hz,<-e];exact hy))
          rw[tQ hin] at gd;clear hin Ed;go_wp2_with (first
           | (go_at_call 247;refine (HC.out _).mono ?_;rintro e w' ⟨rfl,rfl⟩)
           | (at_mapUpdate;refine YK _ rfl _ _ _ 298 rfl 3 4 underlying298 underlying3 w.heap.size _ rfl cJ.out x.addr rfl (.bool true) rfl oK.out ?_;intro w5 jI jn;have H5:=jq (And.intro jI jn);clear jI jn))
          go_roundw
          case rel=>exact⟨k+1,by omega,by go_num,jq ((HB.out.trans (bl.out.acJ)).trans (H5.out.2.below (bQ _))),by rw[H5.out.2.size];omega,jq (by rw[HT.out,List.map_append];exact H5.out.1),jq (HN.out dO.out),OC⟩
          case measure=>simp[intOf] <;> omega
   ·go_wp2_with fail;go_ret;refine⟨aj ?_,HB.out⟩;rw[<-HR.out];refine (Np.dz ⟨ME.out,λx hx=>?_,?_⟩).symm
    ·obtain⟨j,hj,rfl⟩:=nQ.1 hx;exact HA.out j _ (by omega) (aQ hj)
    ·have:=Gw.out
     rwa [kQ (by omega)] at this
 ·have HX:Hid (r=false):=jq (by rw[<-HR.out];exact Np.bP λq=>Du q.few);have Y7:64<l.length:=by omega
  clear Du;go_enter func180,ntmps180;go_wp2_with fail;go_ret;exact⟨aj HX.out.symm,vQ _ _⟩
section
variable {α:Type}
def Ha(R:agJ α)(B:Nat)(w:World)(f:FuncId)(cap:Array Value)(p:α->Bool)(xs:List α):Prop:=
 ∀ (W:World) (x:α) (e0:Value),x∈xs->Below B w W->B<=W.heap.size->R W B [e0] x->Calls prog f (#[e0]++cap) W λe w'=>e = .returned (.bool (p x))/\Below W.heap.size W w'
theorem Uh{R:agJ α}(hK:cj R)(f:FuncId)(eg:∀ args w,(callFunc f args).run prog w = .ok (.enter f args) w)(cap:Array Value)(p:α->Bool)(v:Value)(xs:List α)(w:World)(B:Nat)(hB:B<=w.heap.size)(h:SlR R 1 w B v xs)
 (hp:Ha R B w f cap p xs) :
 Calls prog 319 #[v,.func (.func f) #[] cap] w (agQ w.heap.size w (.int .i64 (jC p xs))):=by
 have H:=jq h;have HP:=jq hp;obtain⟨A,c,rfl,aT,cu,ej⟩:=h;clear ej hp;go_enter func319,ntmps319;go_wp2_with fail;go_loopw [8] (λi wr=>∃ k:Nat,k<=xs.length/\i = .int .i64 k/\Below w.heap.size w wr/\Hid (∀ x∈xs.take k,p x=false)) (λi _=>xs.length - (intOf i).toNat)
 case atStart=>exact⟨0,jQ _,rfl,vQ _ _,jq (by simp)⟩
 case round=>
  obtain⟨k,hk,rfl,hb,HA⟩:=hrel;by_cases aa:k<xs.length
  ·have du:=hb.mono hB;obtain⟨A',c',hA',_,_,aL⟩:=H.out.keep hK du
   cases hA'
   obtain⟨b,o,e,rfl,bC,hlen,hce,hR⟩:=aL k _ (aQ aa)
   match e,hlen with
   | [e0],_=>
   have h0:wr.cell? ⟨b,o+k,none⟩=some e0:=by have:=hce 0 _ rfl;simpa using this
   have jG:=HP.out wr xs[k] e0 (List.getElem_mem aa) du (by have:=hb.size;omega) hR;have HC:=jq jG;have dN:=jq hb;clear aL hce hR jG du hb;go_wp2_with (fail);refine HC.out.mono ?_;rintro e w2 ⟨rfl,ab⟩;have ai:=jq ab;clear ab;by_cases aJ:p xs[k]=true
   ·have HX:=jq aJ;go_wp2_with (fail);go_ret;exact⟨lj (Ij p xs k aa HA.out HX.out).symm,dN.out.trans (ai.out.mono dN.out.size)⟩
   ·have AA:p xs[k]=false:=by simpa using aJ
    have HX:=jq AA;clear aJ;go_wp2_with (fail);go_roundw
    case rel=>
     refine⟨k+1,by omega,by go_num,dN.out.trans (ai.out.mono dN.out.size),jq ?_⟩;rw[fQ aa];intro x hx;rcases List.mem_append.1 hx with h | h
     ·exact HA.out x h
     ·simp at h;subst h;exact HX.out
    case measure=>simp[intOf] <;> omega
  ·go_wp2_with fail;go_ret;exact⟨lj (Il p xs (by have:=HA.out;rwa [kQ (by omega)] at this)).symm,hb⟩
theorem Qk{R:agJ α}(hK:cj R)(f:FuncId)(eg:∀ args w,(callFunc f args).run prog w = .ok (.enter f args) w)(cap:Array Value)(p:α->Bool)(v:Value)(xs:List α)(w:World)(B:Nat)(hB:B<=w.heap.size)(h:SlR R 1 w B v xs)
 (hp:Ha R B w f cap p xs) :
 Calls prog 248 #[v,.func (.func f) #[] cap] w (agQ w.heap.size w (.bool (xs.any p))):=by
 have H:=jq h;have HP:=jq hp;have HE:=jq eg;clear h hp eg;go_enter func248,ntmps248;go_wp2_with (go_at_call 319;refine (Uh hK f HE.out cap p v xs w B hB H.out HP.out).mono ?_;rintro e w' ⟨rfl,hb⟩);go_ret;exact⟨aj (Ik p xs),hb⟩
end
theorem WI(n:Int)(w:World) :
 Calls prog 249 #[.int .i64 n] w (agQ w.heap.size w (.bool (!Np.i8 n))):=by
 obtain⟨q,hq⟩:=abY (Np.i8 n);have HC:Hid (∀ w,Calls prog 247 #[.int .i64 n] w λe w'=>e = .returned (.bool q)/\w=w'):=jq (λw=>by rw[<-hq];exact Fk _ _);rw[hq];clear hq
 cases q
 all_goals
  go_enter func249,ntmps249;go_wp2_with (go_at_call 247;refine (HC.out _).mono ?_;rintro e w' ⟨rfl,rfl⟩);go_ret;exact⟨rfl,vQ _ _⟩
theorem X9(s:ByteArray)(hs:s.size<=140737488355328)(ty life:Int)(dv:Value)(d:List Np.Datum)(hv:Value)(hints:List Int)(w:World)(hR:dS w w.heap.size)(hd:SlR bI 3 w w.heap.size dv d)(hh:SlR eK 1 w w.heap.size hv hints) :
 Calls prog 182 #[.agg #[.string s,.int .i64 ty,.int .i64 life,dv],hv] w (agQ w.heap.size w (.bool (Np.yes (Np.VRoot ⟨s.data.toList,ty,life,d⟩ hints)))):=by
 obtain⟨r,hr⟩:=abY (Np.yes (Np.VRoot ⟨s.data.toList,ty,life,d⟩ hints));rw[hr];have HR:=jq hr;have HD:=jq hd;have HH:=jq hh;have gw:=jq hR;obtain⟨A,c,rfl,aT,cu⟩:=ar hd;obtain⟨A2,c2,rfl,dZ,fZ⟩:=ar hh;clear hr hd hh hR;have HW:Hid (∀ o,Below w.heap.size w (w.alloc o)):=jq (λo=>(vQ _ w).alloc (bQ _) _);go_enter func182,ntmps182;go_wp2_with fail;refine (Bk s hs ty life _ d _ ((gw.out.keep (HW.out _)).more (by simp)) (HD.out.later bq bD (HW.out _))).mono ?_;rintro e w1 ⟨rfl,aq⟩;have aK:w.heap.size<w1.heap.size:=by have:=aq.size;simp at this;omega
 have c0:w1.cell? ⟨w.heap.size,0,none⟩=some (.string s):=by rw[aq.cell (by simp)];go_simp
 have c1:w1.cell? ⟨w.heap.size,1,none⟩=some (.int .i64 ty):=by rw[aq.cell (by simp)];go_simp
 have aD:=jq ((HW.out _).trans (aq.mono (by simp)));clear aq;obtain⟨n,hn⟩:=abY hints.length;have HN:=jq hn;rw[hn] at HH dZ fZ |-;clear hn
 cases jK:Np.bO ⟨s.data.toList,ty,life,d⟩ with
 | false=>
  have HX:Hid (r=false):=jq (by rw[<-HR.out];exact Np.bP λq=>by have:=q.set;rw[jK] at this;cases this);clear jK;go_wp2_with fail;go_ret;exact⟨aj HX.out.symm,aD.out⟩
 | true=>
  have lz:=jq jK;clear jK;by_cases h6:ty=6
  ·by_cases sE:s.data.toList = [46]
   ·have D5:(!s.toList == [46])=false:=by rw[dQ,sE];rfl
    have IG:(ty != 6)=false:=by simpa using h6
    have NH:=jq sE;have H6:=jq h6;clear sE h6;by_cases co:n<1
    ·have HX:Hid (r=false):=jq (by rw[<-HR.out];exact Np.bP λq=>by have:=q.few;rw[HN.out] at this;omega);have g1:decide ((n:Int)<1)=true:=by simp;omega
     clear co;go_wp2_with fail;go_ret;exact⟨aj HX.out.symm,aD.out⟩
    ·have g1:decide ((n:Int)<1)=false:=by simp;omega
     by_cases Eh:8<n
     ·have HX:Hid (r=false):=jq (by rw[<-HR.out];exact Np.bP λq=>by have:=q.few;rw[HN.out] at this;omega);have g2:decide ((8:Int)<(n:Int))=true:=by simp;omega
      clear co Eh;go_wp2_with fail;go_ret;exact⟨aj HX.out.symm,aD.out⟩
     ·have g2:decide ((8:Int)<(n:Int))=false:=by simp;omega
      have fT:Hid (1<=n/\n<=8):=jq (by omega);clear co Eh;have eg:∀ args w,(callFunc 249 args).run prog w = .ok (.enter 249 args) w:=enters_of func249 (by kernel_rfl) rfl;have NL:=jq eg;clear eg;go_wp2_with fail;have d9:=HH.out.keep g9 aD.out;rw[<-HN.out] at d9 |-;refine (Qk (R:=eK) g9 249 NL.out #[] (λn=>!Np.i8 n) _ hints w1 w.heap.size (by omega) d9 (λW x e0 _ _ _ hx=>by
       have hx : [e0] = [Value.int .i64 x]:=hx
       cases hx
       exact WI x W)).mono ?_
      rintro e w2 ⟨rfl,ab⟩;have ai:=aaK aD ab;clear ab;have HQ:Hid ((hints.any λn=>!Np.i8 n)=!r):=jq (by
       rw[<-HR.out]
       cases ha:hints.any λn=>!Np.i8 n with
       | true=>
        obtain⟨x,hx,hb⟩:=List.any_eq_true.1 ha;rw[Np.bP λq=>?_];rfl
        have:=q.each x hx
        simp[Np.i8] at hb;omega
       | false=>
        rw[Np.dz];rfl;refine⟨lz.out,H6.out,NH.out,by have:=fT.out;rw[HN.out];exact this,λx hx=>?_⟩
        have:=List.any_eq_false.1 ha x hx
        simpa [Np.i8] using this)
      rw[HQ.out];clear HQ
      cases r
      all_goals
       go_wp2_with fail;go_ret;exact⟨rfl,ai.out⟩
   ·have HX:Hid (r=false):=jq (by rw[<-HR.out];exact Np.bP λq=>sE q.name);have D5:(!s.toList == [46])=true:=by rw[dQ];simpa using sE
    have IG:(ty != 6)=false:=by simpa using h6
    clear sE h6;go_wp2_with fail;go_ret;exact⟨aj HX.out.symm,aD.out⟩
  ·have HX:Hid (r=false):=jq (by rw[<-HR.out];exact Np.bP λq=>h6 q.type);have IG:(ty != 6)=true:=by simpa using h6
   clear h6;go_wp2_with fail;go_ret;exact⟨aj HX.out.symm,aD.out⟩


theorem E4{α:Type}{R:agJ α}{sz n c:Nat}{w:World}{B:Nat}{xs:List α}(h:SlR R sz w B (.slice none n c) xs):n=0/\xs = []:=by
 obtain⟨A',c',hA',_,_,aL⟩:=h;simp only[Value.slice.injEq] at hA';obtain⟨rfl,rfl,rfl⟩:=hA'
 cases xs with
 | nil=>exact⟨rfl,rfl⟩
 | cons x xs=>
  obtain⟨b,o,e,hA,_⟩:=aL 0 x rfl
  cases hA
theorem Tryz.infoCloneDatum:(prog.info? 128).map (λi=>(i.zero,i.size,i.bytes))=some (some (.agg #[.string ⟨#[]⟩,.int .i64 0,.int .i64 0]),3,32):=by kernel_rfl
theorem Db(v:Value)(xs:List Np.Datum)(hl:xs.length<=1000000)(w:World)(h:SlR bI 3 w w.heap.size v xs) :
 Calls prog 68 #[v] w λe w'=>∃ v',e = .returned v'/\aO bI 3 128 w.heap.size w.heap.size w' v' xs/\Below w.heap.size w w':=by
 have HD:=jq h;obtain⟨A,c,rfl,aT,cu⟩:=ar h;clear h;have heq:=run_eql_slice_nil (P:=prog) w 24 128 A xs.length c underlying24;have ca:Hid (Below w.heap.size w (w.alloc (.cells #[] 128))):=jq ((vQ _ _).alloc (bQ _) _);obtain⟨i0,hi,bd,aK,aC⟩:=info_parts Tryz.infoCloneDatum
 cases A with
 | none=>
  obtain⟨hn,rfl⟩:=E4 HD.out;rw[List.length_nil] at heq |-;simp only[Option.isNone_none] at heq;go_enter func68,ntmps68;go_wp2_with fail;go_ret;exact⟨_,rfl,aO.nil _,vQ _ _⟩
 | some ad=>
  go_enter func68,ntmps68;go_wp2_with (at_builtin;refine Fu (R:=bI) (sz:=3) _ rfl _ _ 24 rfl w.heap.size w.heap.size 128 i0 (.agg #[.string ⟨#[]⟩,.int .i64 0,.int .i64 0]) 32 underlying24 hi bd aK aC rfl (by decide) _ [] rfl (aO.empty w (bQ _)) (some ad) c w.heap.size xs rfl (HD.out.keep bq ca.out) (λr y h=>by (obtain⟨s,_,_,rfl⟩:=h;intro u hu;simp at hu;try rcases hu with rfl | rfl | rfl | rfl | rfl | rfl <;> rfl)) (by simp[maxLen];omega) (by simp;omega) (by simp) (bQ _) (bQ _) bq bD ?_;intro v3 w3 gb ae kL;have H3:=jq (And.intro gb (ca.out.trans ae));clear gb ae kL);go_ret;exact⟨_,rfl,H3.out.1,H3.out.2⟩
theorem Tryz.infoCloneSig:(prog.info? 50).map (λi=>(i.zero,i.size,i.bytes))=some (some (.agg #[.string ⟨#[]⟩,.int .i64 0,.int .i64 0,.int .i64 0,.int .i64 0,.int .u64 0]),6,56):=by kernel_rfl
theorem Hv(v:Value)(xs:List Np.Sig)(hl:xs.length<=1000000)(w:World)(h:SlR cr 6 w w.heap.size v xs) :
 Calls prog 142 #[v] w λe w'=>∃ v',e = .returned v'/\aO cr 6 50 w.heap.size w.heap.size w' v' xs/\Below w.heap.size w w':=by
 have HD:=jq h;obtain⟨A,c,rfl,aT,cu⟩:=ar h;clear h;have heq:=run_eql_slice_nil (P:=prog) w 40 50 A xs.length c underlying40;have ca:Hid (Below w.heap.size w (w.alloc (.cells #[] 50))):=jq ((vQ _ _).alloc (bQ _) _);obtain⟨i0,hi,bd,aK,aC⟩:=info_parts Tryz.infoCloneSig
 cases A with
 | none=>
  obtain⟨hn,rfl⟩:=E4 HD.out;rw[List.length_nil] at heq |-;simp only[Option.isNone_none] at heq;go_enter func142,ntmps142;go_wp2_with fail;go_ret;exact⟨_,rfl,aO.nil _,vQ _ _⟩
 | some ad=>
  go_enter func142,ntmps142;go_wp2_with (at_builtin;refine Fu (R:=cr) (sz:=6) _ rfl _ _ 40 rfl w.heap.size w.heap.size 50 i0 (.agg #[.string ⟨#[]⟩,.int .i64 0,.int .i64 0,.int .i64 0,.int .i64 0,.int .u64 0]) 56 underlying40 hi bd aK aC rfl (by decide) _ [] rfl (aO.empty w (bQ _)) (some ad) c w.heap.size xs rfl (HD.out.keep cC ca.out) (λr y h=>by (obtain⟨s,_,_,rfl⟩:=h;intro u hu;simp at hu;try rcases hu with rfl | rfl | rfl | rfl | rfl | rfl <;> rfl)) (by simp[maxLen];omega) (by simp;omega) (by simp) (bQ _) (bQ _) cC cZ ?_;intro v3 w3 gb ae kL;have H3:=jq (And.intro gb (ca.out.trans ae));clear gb ae kL);go_ret;exact⟨_,rfl,H3.out.1,H3.out.2⟩
theorem Tryz.infoCloneInt:(prog.info? 3).map (λi=>(i.zero,i.size,i.bytes))=some (some (.int .i64 0),1,8):=by kernel_rfl
end
end Go.Proofs.YtfnopgdcaanaiaaGreatDoor
