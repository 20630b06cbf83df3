/- Parts of the proof. No condition. -/
import Derived.Test.YtfnopgdcaanaiaaGreatDoorW09
import Derived.Test.YtfnopgdcaanaiaaGreatDoorW11
import Derived.Test.YtfnopgdcaanaiaaGreatDoorW12
set_option linter.all false
set_option maxRecDepth 100000
set_option maxHeartbeats 8000000
namespace Go.Proofs.YtfnopgdcaanaiaaGreatDoor
open Go.Proofs.Tryz
section
open Go.RowKit Go.Shelf
attribute [local go_sem] Oper.semAt_some
theorem fC.block{w w':World}{B:Nat}{xs:List (List UInt8)}(h:fC w B xs)(hb:w'.heap[B]?=w.heap[B]?):fC w' B xs:=λj x hx=>by
 obtain⟨s,h1,h2,h3,h4⟩:=h j x hx;refine⟨s,h1,h2,(iQ (a:=⟨B,j,none⟩) hb).trans h3,?_⟩;rw[<-h4];simp only[World.frozen?,hb]
def Lu(w:World)(M b5 b6:Nat)(pre:List (List UInt8))(S:Nat->Prop)(W:World):Prop:=
 (∀ k,S k↔k=M\/k=b5\/k=b6)/\Boxed W b5 116 (.slice (some ⟨M,0,none⟩) 8 8)/\Boxed W b6 3 (.int .i64 ((8 - pre.length:Nat):Int))/\pre.length<=8/\Hid (fC W M (List.replicate (8 - pre.length) []++pre.reverse))/\M<W.heap.size/\Below w.heap.size w W
theorem OT(w:World)(M b5 b6:Nat)(B:Nat)(hB:w.heap.size<=B):fL B (Lu w M b5 b6):=by
 rintro s S W W' ⟨hS,h1,h2,h3,h4,h6,h5⟩ ay;refine⟨hS,kg h1 ay ((hS _).2 (.inr (.inl rfl))),kg h2 ay ((hS _).2 (.inr (.inr rfl))),h3,jq (h4.out.block ?_),lQ h6 ay.size,uL h5 ay hB (bQ _)⟩;exact ay.keep _ h6 (.inr ((hS _).2 (.inl rfl)))
theorem YF{p:Nat}{pre:List (List UInt8)}{x:List UInt8}(hp:pre.length=p)(h8:p<8):(List.replicate (8 - p) []++pre.reverse).set (8 - (p+1)) x=List.replicate (8 - (p+1)) []++(pre ++ [x]).reverse:=by
 have e:List.replicate (8 - p) ([]:List UInt8)=List.replicate (8 - (p+1)) [] ++ [[]]:=by
  rw[show 8 - p=(8 - (p+1))+1 by omega,List.replicate_succ']
 rw[e,List.append_assoc,List.set_append_right _ _ (by rw[List.length_replicate];exact bQ _),List.length_replicate,Nat.sub_self,List.reverse_append];rfl
theorem GQ:∀ (xs:List (List UInt8)) (n:Nat) (b:Bool),Np.fD xs n b=true->n<=8->n+xs.length<=8
 | [],n,b,_,h=>by simpa using h
 | x::xs,n,b,h,hn=>by
   unfold Np.fD at h;split at h
   ·cases h
   ·rename_i hc;simp only[Bool.or_eq_true,Qa,not_or] at hc;rw[List.length_cons];split at h
    ·have:=GQ xs (n+1) true h (by omega);omega
    ·split at h
     ·have:=GQ xs (n+1) false h (by omega);omega
     ·cases h
theorem TA{l:List UInt8}(h:Np.aA l=true):(Np.back l).length<=8:=by
 unfold Np.back;split
 ·simp
 ·rename_i hd;unfold Np.aA at h;rw[Qc hd] at h;split at h
  ·cases h
  ·have:=GQ _ 0 false h (by omega)
   omega
theorem OW(t:ByteArray)(hv:Np.aA t.data.toList=true)(w:World) :
 Calls prog 187 #[.string t] w λe w'=>(∃ v,e = .returned (.tuple #[v,.int .i64 0])/\SlR RTx 1 w' w'.heap.size v (Np.eG t.data.toList))/\Below w.heap.size w w':=by
 have ht:t.size<=60:=tU hv;have yS:Hid ((Np.back t.data.toList).length<=8):=jq (TA hv);have HV:=jq hv;clear hv;have gD:∀ w:World,(Instr.makeSlice 116 (.int .i64 8) (.int .i64 8)).run prog w = .ok (.slice (some ⟨w.heap.size,0,none⟩) 8 8) (w.alloc (.cells (madeCells #[Value.string ⟨#[]⟩] 8) 9)):=λw=>Jd 8 (by decide) w;have HZ:Hid (∀ j,j<8->(madeCells #[Value.string ⟨#[]⟩] 8)[j]?=some (.string ⟨#[]⟩)):=jq (λj hj=>Jc _ _ hj);generalize madeCells #[Value.string ⟨#[]⟩] 8=Z at gD HZ;refine (callsIn_wide (n:=0)).1 ?_;refine callsIn_of_wp_marks func187 rfl trivial ?_ rfl;simp only[ntmps187,List.size_toArray,List.length_cons,List.length_nil,Nat.reduceAdd,Nat.reduceSub,Array.replicate_succ,Array.replicate_zero,List.push_toArray,List.append_toArray,List.nil_append,List.cons_append];gi_wp2_with fail;refine⟨trivial,rfl,?_⟩;refine (callsIn_wide.2 (valid_any t (by omega) _)).mono ?_;rintro e w1 ⟨rfl,aB⟩;rw[HV.out];have aq:=jq aB;have bk:=aB.size;clear aB;gi_wp2_with fail;have b5:=Boxed.new (w1.alloc (.cells Z 9)) 116 (.slice (some ⟨w1.heap.size,0,none⟩) 8 8);have b6:=Boxed.new ((w1.alloc (.cells Z 9)).alloc (.cells #[.slice (some ⟨w1.heap.size,0,none⟩) 8 8] 116)) 3 (.int .i64 8);simp only[World.size_alloc] at b5 b6;have VB:fC (w1.alloc (.cells Z 9)) w1.heap.size (List.replicate 8 []):=λj x hx=>by
  rw[List.getElem?_replicate] at hx;split at hx
  ·rename_i hj
   cases hx
   exact⟨⟨#[]⟩,rfl,by decide,by simp[go_sem];exact HZ.out j hj,by simp[go_sem]⟩
  ·cases hx
 refine EN (n₀:=w.heap.size) (w0:=w) (first:=#[.string t]) (captured:=#[]) (gf:=215) rfl (enters_of func215 (by kernel_rfl) rfl) (mk:=λy=>#[.string t,y]) (λ_=>rfl)
  (CT t (by omega) _ w) (aq.out.trans ((((vQ _ w1).alloc (bQ _) _).alloc (by simp) _).alloc (by simp;omega) _ |>.mono bk)) (by simp;omega) (λ_=>rfl) (Lu w w1.heap.size (w1.heap.size+1) (w1.heap.size+1+1)) (λ_ _ _ _=>False)
  (OT _ _ _ _ _ (by simp;omega)) (λc s S W W' h _=>h)
  (λk=>k=w1.heap.size\/k=w1.heap.size+1\/k=w1.heap.size+1+1) (by intro k h;omega) (by intro k h;simp;omega)
  ⟨λ_=>Iff.rfl,b5.alloc _,b6,by simp,jq ((VB.keep (((vQ _ _).alloc (bQ _) _).alloc (by simp) _) (by simp))),by simp;omega,aq.out.trans ((((vQ _ w1).alloc (bQ _) _).alloc (by simp) _).alloc (by simp;omega) _ |>.mono bk)⟩ ?round ?done ?stop
 case round=>
  rintro l0 pre x S W br hI fq;gi_wp2;refine⟨S,RdStep.refl _ _,λk e=>.inl e,fq,?_⟩;intro l W₂ ay;obtain⟨hS,c5,c6,h8,hrow,G6,hB⟩:=OT w _ _ _ _ (by simp;omega) pre S W W₂ hI ay;have tB:pre.length+1<=8:=by
   have:=br.length_le
   have h9:=yS.out;simp at this;omega
  have hx:x∈Np.back t.data.toList:=br.subset (by simp);have tM:x.length<=60:=by have:=Np.CS hx;rw[aX] at this;omega
  have mh:∀ k,S k->k<W₂.heap.size:=λk e=>lQ (fq k e) ay.size;obtain⟨j,hj⟩:∃ j,8 - (pre.length+1)=j:=⟨_,rfl⟩;have hq:((8 - pre.length:Nat):Int)=((j+1:Nat):Int):=by omega
  rw[hq] at c6;have hj8:j<8:=by omega
  obtain⟨sz,_,_,vf,vq⟩:=hrow.out j [] (by rw[List.getElem?_append_left (by rw[List.length_replicate];omega),List.getElem?_replicate,Qb (by omega)]);have xq:Hid (∀ W',fC W' w1.heap.size (List.replicate (8 - pre.length) []++pre.reverse)->fC (W'.setCell ⟨w1.heap.size,j,none⟩ (av x)) w1.heap.size (List.replicate (8 - (pre ++ [x]).length) []++(pre ++ [x]).reverse)):=jq (λW' hW=>by
   have h1:=hW.store (k:=j) (by rw[List.length_append,List.length_replicate,List.length_reverse];omega) ⟨x.toArray⟩ (by rw[<-aX];simp;omega);have e:((⟨x.toArray⟩:ByteArray).data.toList)=x:=by simp
   rw[e,<-hj,YF rfl (by omega)] at h1;rw[List.length_append,List.length_singleton,<-hj];exact h1)
  have HOLD:=jq hrow.out;have nV:=jq c5;have nW:=jq c6;have c5c:=c5.cell;have c6c:=c6.cell;have c5f:=c5.frozen;have c6f:=c6.frozen;have ah:IntKind.i64.wrap (((j+1:Nat):Int) - 1)=(j:Int):=by rw[IntWalk.i64_in _ (by omega)];omega
  have kp:(0:Int)<=(j:Int):=by omega
  have vv:(j:Int)<8:=by omega
  have HJ:=jq hj;clear hx hq br hI hrow c5 c6 hj;have hlen:8 - (pre ++ [x]).length=j:=by rw[List.length_append,List.length_singleton];exact HJ.out
  have xk:=jq hlen;clear hlen;gi_wp2;refine⟨S,((RdStep.refl S W₂).setCell (p:=⟨w1.heap.size+1+1,0,none⟩) (.inl ((hS _).2 (.inr (.inr rfl)))) _).setCell (p:=⟨w1.heap.size,j,none⟩) (.inl ((hS _).2 (.inl rfl))) _,λ_ e=>.inl e,λk e=>by have:=mh k e;simp[World.setCell];omega,hS,?_,?_,by rw[List.length_append,List.length_singleton];omega,jq (xq.out _ (HOLD.out.other (by simp <;> omega) _)),by simpa using G6,(hB.setCell (p:=⟨w1.heap.size+1+1,0,none⟩) (by simp;omega) _).setCell (p:=⟨w1.heap.size,j,none⟩) (by simpa using bk) _⟩
  ·exact fo (fo nV.out (p:=⟨w1.heap.size+1+1,0,none⟩) (by simp) _) (p:=⟨w1.heap.size,j,none⟩) (by simp) _
  ·rw[xk.out];exact fo (nW.out.set _) (p:=⟨w1.heap.size,j,none⟩) (by simp <;> omega) _
 case done=>
  rintro D S W hD gw bj ⟨hS,c5,c6,h8,hrow,G6,hB⟩ hK;have c5c:=c5.cell;have c6c:=c6.cell;obtain⟨n,hn⟩:=aCQ ((Np.back t.data.toList).length);rw[hn] at c6c h8;obtain⟨q,hq⟩:∃ q,8 - n=q:=⟨_,rfl⟩;rw[hq] at c6c;have lh:q<=8:=by omega
  have oP:(0:Int)<=(q:Int):=by omega
  have DT:(q:Int)<=8:=by omega
  have HN:=jq hn;have HQ:=jq hq;have R5:Hid (w1.heap.size≠D):=jq (λe=>gw ((hS _).2 (.inl e.symm)));have xq:=jq hrow.out;have KP:Hid (Np.eG t.data.toList=(Np.back t.data.toList).reverse):=jq (by rw[<-Np.BQ,List.reverse_reverse]);have CI:Hid (∀ x∈Np.back t.data.toList,x.length<=140737488355328):=jq (λx hx=>by have:=Np.CS hx;rw[aX] at this;omega);clear hrow;by_cases iH:n=0
  ·have Xi:q=8:=by omega
   have Sc:Hid (Np.eG t.data.toList = []):=jq (by rw[KP.out,rQ (HN.out.trans iH)];rfl);clear hn hq c5 c6 iH;subst Xi;gi_wp2;exact nu hK (v:=.tuple #[.slice (some ⟨w1.heap.size,0,none⟩) 0 0,.int .i64 0]) (by simp[results,results187,go_sem]) ⟨⟨_,rfl,by rw[Sc.out];exact⟨_,_,rfl,by simp,by simp,λi x hx=>by simp at hx⟩⟩,me hB (by have:=aq.out.size;simp at hD;omega) _⟩
  ·have Bq:q<8:=by omega
   have aMX:(q:Int)<8:=by omega
   have kr:¬ q=8:=by omega
   have lB:Hid (8 - q=n):=jq (by omega);have DM:8 - q=n:=by omega
   clear hn hq c5 c6 iH;gi_wp2;refine nu hK (v:=.tuple #[.slice (some ⟨w1.heap.size,q,none⟩) n n,.int .i64 0]) (by simp[results,results187,go_sem]) ⟨⟨_,rfl,?_⟩,me hB (by have:=aq.out.size;simp at hD;omega) _⟩;have hr:fC (W.putObj D (.deferred none)) w1.heap.size (List.replicate (8 - (Np.back t.data.toList).length) []++(Np.back t.data.toList).reverse):=xq.out.block (zQ R5.out);rw[KP.out];have vH:(Np.back t.data.toList).reverse.length=n:=by rw[List.length_reverse];exact HN.out
   refine⟨_,n,by rw[vH],by omega,by omega,λi x hx=>?_⟩;have hin:=(cQ.1 hx).1;obtain⟨s,h1,h2,h3,_⟩:=hr (q+i) x (by rw[HN.out,HQ.out,oQ (by rw[List.length_replicate];omega),List.length_replicate,show q+i - q=i by omega];exact hx);refine⟨w1.heap.size,q,[.string s],rfl,by simpa using G6,rfl,λj v hv=>?_,s,h1,h2,rfl⟩
   match j,hv with
   | 0,hv=>cases hv;simpa using h3
 case stop=>
  rintro D c pre S W hD gw bj ga h hK;exact h.elim
theorem awX(s:ByteArray)(h:Np.aA s.data.toList=true)(w:World) :
 Calls prog 246 #[.string s] w (aFQ w.heap.size w (.bool (Np.dP s.data.toList))):=by
 have hw:=JV h;obtain⟨ps,ft⟩:=aCQ (Np.eG s.data.toList);obtain⟨r,hr⟩:=aCQ (ps.head? == some [42]);rw[hw,ft,hr];have nc:=jq ft;have HR:=jq hr;have HV:=jq h;clear hw h ft hr;go_enter func246,ntmps246;go_wp2_with fail;refine (OW s HV.out _).mono ?_;rw[nc.out];rintro e w1 ⟨⟨v,rfl,hv⟩,hb⟩;have HB:=jq hb;clear hb;obtain⟨A,c,rfl,hc,hl,he⟩:=hv
 cases ps with
 | nil=>
  have HX:Hid (r=false):=jq (by rw[<-HR.out];rfl);go_wp2_with fail;go_ret;exact⟨ag HX.out.symm,HB.out⟩
 | cons x xs=>
  obtain⟨b,o,e,rfl,bD,_,hce,sx,li,_,rfl⟩:=he 0 x rfl;have h0:w1.cell? ⟨b,o,none⟩=some (.string sx):=by have:=hce 0 _ rfl;simpa using this
  obtain⟨q,hq⟩:=aCQ (sx.toList == [42]);have HX:Hid (q=r):=jq (by rw[<-HR.out,<-hq,dQ,li,List.head?_cons,Bool.eq_iff_iff];simp);obtain⟨n,hn⟩:=aCQ ((x::xs).length);have iH:0<n:=by rw[<-hn];simp
  have NS:(0:Int)<(n:Int):=by omega
  rw[hn];clear he hce hc hl hn li
  cases q with
  | true=>
   go_wp2_with fail;go_ret;exact⟨ag HX.out,HB.out⟩
  | false=>
   go_wp2_with fail;go_ret;exact⟨ag HX.out,HB.out⟩
end
section
open Go.RowKit
def kf(_:World)(_:Nat)(e:List Value)(x:Np.Host):Prop:=∃ s:ByteArray,s.data.toList=x.name/\s.size<=140737488355328/\e = [.string s,.int .i64 x.addr,.int .i64 x.owner]
theorem o6:dL kf:=λ_ _ _ _ _ h _=>h
theorem yx:dZ kf:=λ_ _ _ _ _ h _=>h
theorem Bp{w:World}{B n c:Nat}{A:Option Addr}{xs:List Np.Host}(h:SlR kf 3 w B (.slice A n c) xs){k:Nat}{x:Np.Host}(hx:xs[k]?=some x):∃ (b o:Nat) (s:ByteArray),A=some ⟨b,o,none⟩/\b<B/\s.data.toList=x.name/\s.size<=140737488355328/\w.cell? ⟨b,o+k * 3,none⟩=some (.string s)/\w.cell? ⟨b,o+k * 3+1,none⟩=some (.int .i64 x.addr)/\w.cell? ⟨b,o+k * 3+2,none⟩=some (.int .i64 x.owner):=by
 obtain⟨A',c',hv,hc,_,he⟩:=h;simp only[Value.slice.injEq] at hv;obtain⟨rfl,_,_⟩:=hv;obtain⟨b,o,e,rfl,hb,_,hce,s,h1,h2,rfl⟩:=he k x hx;exact⟨b,o,s,rfl,hb,h1,h2,by have:=hce 0 _ rfl;simpa using this,hce 1 _ rfl,hce 2 _ rfl⟩
theorem Ym{w:World}{B n c:Nat}{A:Option Addr}{xs:List Int}(h:SlR kP 1 w B (.slice A n c) xs){k:Nat}{x:Int}(hx:xs[k]?=some x):∃ (b o:Nat),A=some ⟨b,o,none⟩/\b<B/\w.cell? ⟨b,o+k,none⟩=some (.int .i64 x):=by
 obtain⟨A',c',hv,hc,_,he⟩:=h;simp only[Value.slice.injEq] at hv;obtain⟨rfl,_,_⟩:=hv;obtain⟨b,o,e,rfl,hb,_,hce,rfl⟩:=he k x hx;exact⟨b,o,rfl,hb,by have:=hce 0 _ rfl;simpa using this⟩
def Np.lG(n:Int):Bool:=decide (1<=n)&&decide (n<=1000000)
theorem JP(n:Int)(w:World) :
 Calls prog 247 #[.int .i64 n] w (aFZ w (.bool (Np.lG n))):=by
 obtain⟨r,hr⟩:=aCQ (Np.lG n);rw[hr];by_cases h1:1<=n
 ·by_cases h2:n<=1000000
  ·have HX:Hid (r=true):=jq (by rw[<-hr];simp[Np.lG,h1,h2]);clear hr;go_enter func247,ntmps247;go_wp2_with fail;go_ret;exact⟨ag HX.out.symm,rfl⟩
  ·have HX:Hid (r=false):=jq (by rw[<-hr];simp[Np.lG,h2]);clear hr;go_enter func247,ntmps247;go_wp2_with fail;go_ret;exact⟨ag HX.out.symm,rfl⟩
 ·have HX:Hid (r=false):=jq (by rw[<-hr];simp[Np.lG,h1]);clear hr;go_enter func247,ntmps247;go_wp2_with fail;go_ret;exact⟨ag HX.out.symm,rfl⟩
theorem LH(a:Int):∀ l:List Np.Host,(((l.map λh=>(h.addr,Value.bool true)).lookup a).getD (.bool false) = .bool (decide (a∈l.map (·.addr))))/\(a∉l.map (·.addr)->(l.map λh=>(h.addr,Value.bool true)).lookup a=none)
 | []=>⟨rfl,λ_=>rfl⟩
 | h::l=>by
   obtain⟨i1,i2⟩:=LH a l;rw[List.map_cons,List.map_cons];by_cases e:a=h.addr
   ·subst e;rw[List.lookup_cons_self];exact⟨by simp,λhn=>absurd (by simp) hn⟩
   ·have hb:(a == h.addr)=false:=by simpa using e
    rw[List.lookup_cons,hb];exact⟨by rw[i1];simp[e],λhn=>i2 λhm=>hn (mQ _ hm)⟩
theorem auX(v:Value)(l:List Np.Host)(w:World)(hd:SlR kf 3 w w.heap.size v l) :
 Calls prog 180 #[v] w (aFQ w.heap.size w (.bool (Np.yes (Np.VHosts l)))):=by
 obtain⟨r,hr⟩:=aCQ (Np.yes (Np.VHosts l));rw[hr];have HR:=jq hr;have HD:=jq hd;obtain⟨A,c,rfl,bq,bN⟩:=ak hd;clear hr hd;by_cases uU:l.length<=64
 ·have E0:=jq uU;have lN:∀ (w:World),(Instr.makeMap 298 none).run prog w = .ok (.map (some w.heap.size)) (w.alloc (.map #[] 0)):=λw=>by
   simp[Instr.makeMap,Result.andThen]
  go_enter func180,ntmps180;go_wp2_with fail;have uv:=jq (nn.made w);have aB:Below w.heap.size w (w.alloc (.map #[] 0)):=(vQ _ w).alloc (bQ _) _;have aq:=jq aB;have bk:w.heap.size<(w.alloc (.map #[] 0)).heap.size:=by simp
  clear aB;generalize w.alloc (.map #[] 0)=w1 at *;go_loopw [12] (λi wr=>∃ k:Nat,k<=l.length/\i = .int .i64 k/\Hid (Below w.heap.size w wr)/\w.heap.size<wr.heap.size/\Hid (nn w.heap.size ((l.take k).map λh=>(h.addr,Value.bool true)) wr)/\Hid (∀ j x,j<k->l[j]?=some x->Np.HostOk x)/\Hid (((l.take k).map (·.addr)).Nodup)) (λi _=>l.length - (intOf i).toNat)
  case atStart=>exact⟨0,jQ _,rfl,aq,bk,uv,jq (λj x hj=>by omega),jq (by simp)⟩
  case round=>
   obtain⟨k,hk,rfl,HB,dJ,HM,HA,od⟩:=hrel;by_cases aa:k<l.length
   ·obtain⟨x,ac⟩:∃ x,l[k]?=some x:=⟨_,aQ aa⟩;obtain⟨b,o,sn,rfl,bR,ar,cZ,f0,f1,f2⟩:=Bp (HD.out.keep o6 HB.out) ac;have ht:l.take (k+1)=l.take k ++ [x]:=by
     obtain⟨hl,he⟩:=cQ.1 ac;rw[fQ hl,he]
    have HT:=jq ht;have HN:Hid (Np.HostOk x->∀ j y,j<k+1->l[j]?=some y->Np.HostOk y):=jq (λh j y hj hy=>by
     by_cases e:j=k
     ·subst e;rw[ac] at hy;cases hy;exact h
     ·exact HA.out j y (by omega) hy)
    have HF:Hid (¬ Np.HostOk x->r=false):=jq (λh=>by rw[<-HR.out];exact Np.aC λq=>h (q.each x (gQ ac)));have um:Hid (x.addr∈(l.take k).map (·.addr)->r=false):=jq (λh=>by
     rw[<-HR.out];refine Np.aC λq=>?_;have h1:=q.addrs;have h2:(l.take (k+1)).map (·.addr) <+: l.map (·.addr):=by rw[List.map_take];exact List.take_prefix _ _
     have h3:=h1.sublist h2.sublist;rw[ht,List.map_append,List.nodup_append] at h3;exact h3.2.2 x.addr h x.addr (by simp) rfl)
    have aS:=jq ar;have eT:Hid (∀ o,Below wr.heap.size wr (wr.alloc o)):=jq (λo=>(vQ _ _).alloc (bQ _) _);obtain⟨w2,aj⟩:=aCQ (wr.alloc (.cells #[.string sn,.int .i64 x.addr,.int .i64 x.owner] 101));have ae:Below wr.heap.size wr w2:=by rw[<-aj];exact eT.out _
    have p0:w2.cell? ⟨wr.heap.size,0,none⟩=some (.string sn):=by rw[<-aj];simp[go_sem]
    have p1:w2.cell? ⟨wr.heap.size,1,none⟩=some (.int .i64 x.addr):=by rw[<-aj];simp[go_sem]
    have p2:w2.cell? ⟨wr.heap.size,2,none⟩=some (.int .i64 x.owner):=by rw[<-aj];simp[go_sem]
    have aK:wr.heap.size<w2.heap.size:=by rw[<-aj];simp
    have ai:=jq ae;clear ac ar ht ae;go_wp2_with fail;clear aj f0 f1 f2;refine (nameValid_any sn cZ _).mono ?_;rintro e w3 ⟨rfl,al⟩;have eF:=al.size;have am:=aBY ai al;replace p0:w3.cell? ⟨wr.heap.size,0,none⟩=some (.string sn):=(al.cell (by simpa using aK)).trans p0;replace p1:w3.cell? ⟨wr.heap.size,1,none⟩=some (.int .i64 x.addr):=(al.cell (by simpa using aK)).trans p1;replace p2:w3.cell? ⟨wr.heap.size,2,none⟩=some (.int .i64 x.owner):=(al.cell (by simpa using aK)).trans p2;clear al
    cases lp:Np.aA sn.data.toList with
    | false=>
     have HX:Hid (r=false):=jq (HF.out λh=>by have:=h.name;rw[<-aS.out,lp] at this;cases this);clear lp;go_wp2_with fail;go_ret;exact⟨ag HX.out.symm,HB.out.trans (am.out.aDQ)⟩
    | true=>
     have ic:=jq lp;clear lp;go_wp2_with fail;refine (awX sn ic.out _).mono ?_;rintro e w4 ⟨rfl,aw⟩;have fd:=aw.size;have aP:=aBY am aw;replace p1:=aBX aw p1;replace p2:=aBX aw p2;clear aw p0
     cases rX:Np.dP sn.data.toList with
     | true=>
      have HX:Hid (r=false):=jq (HF.out λh=>by have:=h.wild;rw[<-aS.out,rX] at this;cases this);clear rX;go_wp2_with fail;go_ret;exact⟨ag HX.out.symm,HB.out.trans (aP.out.aDQ)⟩
     | false=>
      have Gk:=jq rX;clear rX;by_cases NU:x.owner<0
      ·have HX:Hid (r=false):=jq (HF.out λh=>by have:=h.owner;omega);go_wp2_with fail;go_ret;exact⟨ag HX.out.symm,HB.out.trans (aP.out.aDQ)⟩
      ·have g1:decide (x.owner<0)=false:=by simpa using NU
       by_cases lO:32<=x.owner
       ·have g2:decide (32<=x.owner)=true:=by simpa using lO
        have HX:Hid (r=false):=jq (HF.out λh=>by have:=h.owner;omega);go_wp2_with fail;go_ret;exact⟨ag HX.out.symm,HB.out.trans (aP.out.aDQ)⟩
       ·have g2:decide (32<=x.owner)=false:=by simpa using lO
        have iw:Hid (0<=x.owner/\x.owner<=31):=jq (by omega);clear NU lO
        cases uZ:Np.lG x.addr with
        | false=>
         have HX:Hid (r=false):=jq (HF.out λh=>by have:=h.addr;simp[Np.lG] at uZ;omega);have HC:Hid (∀ w,Calls prog 247 #[.int .i64 x.addr] w λe w'=>e = .returned (.bool false)/\w=w'):=jq (λw=>by rw[<-uZ];exact JP _ _);clear uZ;go_wp2_with (go_at_call 247;refine (HC.out _).mono ?_;rintro e w' ⟨rfl,rfl⟩);go_ret;exact⟨ag HX.out.symm,HB.out.trans (aP.out.aDQ)⟩
        | true=>
         have bl:Hid (Np.HostOk x):=jq ⟨by rw[<-aS.out];exact ic.out,by rw[<-aS.out];exact Gk.out,by simp[Np.lG] at uZ;exact uZ,iw.out⟩;have HC:Hid (∀ w,Calls prog 247 #[.int .i64 x.addr] w λe w'=>e = .returned (.bool true)/\w=w'):=jq (λw=>by rw[<-uZ];exact JP _ _);have g9:Hid (nn w.heap.size ((l.take k).map λh=>(h.addr,Value.bool true)) w4):=jq (HM.out.keep aP.out dJ);obtain⟨DL,Im⟩:=LH x.addr (l.take k);have iV:=akK (P:=prog) w4 298 3 4 underlying298 underlying3 w.heap.size _ g9.out x.addr (.bool false) (by kernel_rfl);rw[DL] at iV;clear uZ DL;by_cases hin:x.addr∈(l.take k).map (·.addr)
         ·have HX:Hid (r=false):=jq (um.out hin);rw[uQ hin] at iV;clear hin Im;go_wp2_with (go_at_call 247;refine (HC.out _).mono ?_;rintro e w' ⟨rfl,rfl⟩);go_ret;exact⟨ag HX.out.symm,HB.out.trans (aP.out.aDQ)⟩
         ·have cw:=jq (Im hin);have FN:Hid (((l.take (k+1)).map (·.addr)).Nodup):=jq (by
           rw[HT.out,List.map_append,List.nodup_append];refine⟨od.out,by simp,λy hy z hz e=>?_⟩;simp at hz;exact hin (by rw[<-hz,<-e];exact hy))
          rw[tQ hin] at iV;clear hin Im;go_wp2_with (first
           | (go_at_call 247;refine (HC.out _).mono ?_;rintro e w' ⟨rfl,rfl⟩)
           | (at_mapUpdate;refine aAQ _ rfl _ _ _ 298 rfl 3 4 underlying298 underlying3 w.heap.size _ rfl g9.out x.addr rfl (.bool true) rfl cw.out ?_;intro w5 mA lT;have H5:=jq (And.intro mA lT);clear mA lT))
          go_roundw
          case rel=>exact⟨k+1,by omega,by go_num,jq ((HB.out.trans (aP.out.aDQ)).trans (H5.out.2.below (bQ _))),by rw[H5.out.2.size];omega,jq (by rw[HT.out,List.map_append];exact H5.out.1),jq (HN.out bl.out),FN⟩
          case measure=>simp[intOf] <;> omega
   ·go_wp2_with fail;go_ret;refine⟨ag ?_,HB.out⟩;rw[<-HR.out];refine (Np.ba ⟨E0.out,λx hx=>?_,?_⟩).symm
    ·obtain⟨j,hj,rfl⟩:=nQ.1 hx;exact HA.out j _ (by omega) (aQ hj)
    ·have:=od.out
     rwa [kQ (by omega)] at this
 ·have HX:Hid (r=false):=jq (by rw[<-HR.out];exact Np.aC λq=>uU q.few);have Vo:64<l.length:=by omega
  clear uU;go_enter func180,ntmps180;go_wp2_with fail;go_ret;exact⟨ag HX.out.symm,vQ _ _⟩
section
variable {α:Type}
def Lw(R:aFJ α)(B:Nat)(w:World)(f:FuncId)(cap:Array Value)(p:α->Bool)(xs:List α):Prop:=
 ∀ (W:World) (x:α) (e0:Value),x∈xs->Below B w W->B<=W.heap.size->R W B [e0] x->Calls prog f (#[e0]++cap) W λe w'=>e = .returned (.bool (p x))/\Below W.heap.size W w'
theorem Yk{R:aFJ α}(hK:dL R)(f:FuncId)(eg:∀ args w,(callFunc f args).run prog w = .ok (.enter f args) w)(cap:Array Value)(p:α->Bool)(v:Value)(xs:List α)(w:World)(B:Nat)(hB:B<=w.heap.size)(h:SlR R 1 w B v xs)
 (hp:Lw R B w f cap p xs) :
 Calls prog 319 #[v,.func (.func f) #[] cap] w (aFQ w.heap.size w (.int .i64 (mf p xs))):=by
 have H:=jq h;have HP:=jq hp;obtain⟨A,c,rfl,bq,bN,kl⟩:=h;clear kl hp;go_enter func319,ntmps319;go_wp2_with fail;go_loopw [8] (λi wr=>∃ k:Nat,k<=xs.length/\i = .int .i64 k/\Below w.heap.size w wr/\Hid (∀ x∈xs.take k,p x=false)) (λi _=>xs.length - (intOf i).toNat)
 case atStart=>exact⟨0,jQ _,rfl,vQ _ _,jq (by simp)⟩
 case round=>
  obtain⟨k,hk,rfl,hb,HA⟩:=hrel;by_cases aa:k<xs.length
  ·have bR:=hb.mono hB;obtain⟨A',c',hA',_,_,bX⟩:=H.out.keep hK bR
   cases hA'
   obtain⟨b,o,e,rfl,bD,hlen,hce,hR⟩:=bX k _ (aQ aa)
   match e,hlen with
   | [e0],_=>
   have h0:wr.cell? ⟨b,o+k,none⟩=some e0:=by have:=hce 0 _ rfl;simpa using this
   have ci:=HP.out wr xs[k] e0 (List.getElem_mem aa) bR (by have:=hb.size;omega) hR;have HC:=jq ci;have dE:=jq hb;clear bX hce hR ci bR hb;go_wp2_with (fail);refine HC.out.mono ?_;rintro e w2 ⟨rfl,ae⟩;have ai:=jq ae;clear ae;by_cases br:p xs[k]=true
   ·have HX:=jq br;go_wp2_with (fail);go_ret;exact⟨jr (Mv p xs k aa HA.out HX.out).symm,dE.out.trans (ai.out.mono dE.out.size)⟩
   ·have DS:p xs[k]=false:=by simpa using br
    have HX:=jq DS;clear br;go_wp2_with (fail);go_roundw
    case rel=>
     refine⟨k+1,by omega,by go_num,dE.out.trans (ai.out.mono dE.out.size),jq ?_⟩;rw[fQ aa];intro x hx;rcases List.mem_append.1 hx with h | h
     ·exact HA.out x h
     ·simp at h;subst h;exact HX.out
    case measure=>simp[intOf] <;> omega
  ·go_wp2_with fail;go_ret;exact⟨jr (Mx p xs (by have:=HA.out;rwa [kQ (by omega)] at this)).symm,hb⟩
theorem Uh{R:aFJ α}(hK:dL R)(f:FuncId)(eg:∀ args w,(callFunc f args).run prog w = .ok (.enter f args) w)(cap:Array Value)(p:α->Bool)(v:Value)(xs:List α)(w:World)(B:Nat)(hB:B<=w.heap.size)(h:SlR R 1 w B v xs)
 (hp:Lw R B w f cap p xs) :
 Calls prog 248 #[v,.func (.func f) #[] cap] w (aFQ w.heap.size w (.bool (xs.any p))):=by
 have H:=jq h;have HP:=jq hp;have HE:=jq eg;clear h hp eg;go_enter func248,ntmps248;go_wp2_with (go_at_call 319;refine (Yk hK f HE.out cap p v xs w B hB H.out HP.out).mono ?_;rintro e w' ⟨rfl,hb⟩);go_ret;exact⟨ag (Mw p xs),hb⟩
end
theorem aiK(n:Int)(w:World) :
 Calls prog 249 #[.int .i64 n] w (aFQ w.heap.size w (.bool (!Np.lG n))):=by
 obtain⟨q,hq⟩:=aCQ (Np.lG n);have HC:Hid (∀ w,Calls prog 247 #[.int .i64 n] w λe w'=>e = .returned (.bool q)/\w=w'):=jq (λw=>by rw[<-hq];exact JP _ _);rw[hq];clear hq
 cases q
 all_goals
  go_enter func249,ntmps249;go_wp2_with (go_at_call 247;refine (HC.out _).mono ?_;rintro e w' ⟨rfl,rfl⟩);go_ret;exact⟨rfl,vQ _ _⟩
theorem auY(s:ByteArray)(hs:s.size<=140737488355328)(ty life:Int)(dv:Value)(d:List Np.Datum)(hv:Value)(hints:List Int)(w:World)(hR:iR w w.heap.size)(hd:SlR bK 3 w w.heap.size dv d)(hh:SlR kP 1 w w.heap.size hv hints) :
 Calls prog 182 #[.agg #[.string s,.int .i64 ty,.int .i64 life,dv],hv] w (aFQ w.heap.size w (.bool (Np.yes (Np.VRoot ⟨s.data.toList,ty,life,d⟩ hints)))):=by
 obtain⟨r,hr⟩:=aCQ (Np.yes (Np.VRoot ⟨s.data.toList,ty,life,d⟩ hints));rw[hr];have HR:=jq hr;have HD:=jq hd;have HH:=jq hh;have fV:=jq hR;obtain⟨A,c,rfl,bq,bN⟩:=ak hd;obtain⟨A2,c2,rfl,fF,eK⟩:=ak hh;clear hr hd hh hR;have HW:Hid (∀ o,Below w.heap.size w (w.alloc o)):=jq (λo=>(vQ _ w).alloc (bQ _) _);go_enter func182,ntmps182;go_wp2_with fail;refine (Jn s hs ty life _ d _ ((fV.out.keep (HW.out _)).more (by simp)) (HD.out.later cM dt (HW.out _))).mono ?_;rintro e w1 ⟨rfl,aB⟩;have bk:w.heap.size<w1.heap.size:=by have:=aB.size;simp at this;omega
 have c0:w1.cell? ⟨w.heap.size,0,none⟩=some (.string s):=by rw[aB.cell (by simp)];go_simp
 have c1:w1.cell? ⟨w.heap.size,1,none⟩=some (.int .i64 ty):=by rw[aB.cell (by simp)];go_simp
 have aq:=jq ((HW.out _).trans (aB.mono (by simp)));clear aB;obtain⟨n,hn⟩:=aCQ hints.length;have HN:=jq hn;rw[hn] at HH fF eK |-;clear hn
 cases da:Np.cN ⟨s.data.toList,ty,life,d⟩ with
 | false=>
  have HX:Hid (r=false):=jq (by rw[<-HR.out];exact Np.aC λq=>by have:=q.set;rw[da] at this;cases this);clear da;go_wp2_with fail;go_ret;exact⟨ag HX.out.symm,aq.out⟩
 | true=>
  have kb:=jq da;clear da;by_cases h6:ty=6
  ·by_cases nB:s.data.toList = [46]
   ·have HU:(!s.toList == [46])=false:=by rw[dQ,nB];rfl
    have Aj:(ty != 6)=false:=by simpa using h6
    have Fp:=jq nB;have H6:=jq h6;clear nB h6;by_cases bU:n<1
    ·have HX:Hid (r=false):=jq (by rw[<-HR.out];exact Np.aC λq=>by have:=q.few;rw[HN.out] at this;omega);have g1:decide ((n:Int)<1)=true:=by simp;omega
     clear bU;go_wp2_with fail;go_ret;exact⟨ag HX.out.symm,aq.out⟩
    ·have g1:decide ((n:Int)<1)=false:=by simp;omega
     by_cases ye:8<n
     ·have HX:Hid (r=false):=jq (by rw[<-HR.out];exact Np.aC λq=>by have:=q.few;rw[HN.out] at this;omega);have g2:decide ((8:Int)<(n:Int))=true:=by simp;omega
      clear bU ye;go_wp2_with fail;go_ret;exact⟨ag HX.out.symm,aq.out⟩
     ·have g2:decide ((8:Int)<(n:Int))=false:=by simp;omega
      have gG:Hid (1<=n/\n<=8):=jq (by omega);clear bU ye;have eg:∀ args w,(callFunc 249 args).run prog w = .ok (.enter 249 args) w:=enters_of func249 (by kernel_rfl) rfl;have RJ:=jq eg;clear eg;go_wp2_with fail;have cY:=HH.out.keep qV aq.out;rw[<-HN.out] at cY |-;refine (Uh (R:=kP) qV 249 RJ.out #[] (λn=>!Np.lG n) _ hints w1 w.heap.size (by omega) cY (λW x e0 _ _ _ hx=>by
       have hx : [e0] = [Value.int .i64 x]:=hx
       cases hx
       exact aiK x W)).mono ?_
      rintro e w2 ⟨rfl,ae⟩;have ai:=aBY aq ae;clear ae;have HQ:Hid ((hints.any λn=>!Np.lG n)=!r):=jq (by
       rw[<-HR.out]
       cases ha:hints.any λn=>!Np.lG n with
       | true=>
        obtain⟨x,hx,hb⟩:=List.any_eq_true.1 ha;rw[Np.aC λq=>?_];rfl
        have:=q.each x hx
        simp[Np.lG] at hb;omega
       | false=>
        rw[Np.ba];rfl;refine⟨kb.out,H6.out,Fp.out,by have:=gG.out;rw[HN.out];exact this,λx hx=>?_⟩
        have:=List.any_eq_false.1 ha x hx
        simpa [Np.lG] using this)
      rw[HQ.out];clear HQ
      cases r
      all_goals
       go_wp2_with fail;go_ret;exact⟨rfl,ai.out⟩
   ·have HX:Hid (r=false):=jq (by rw[<-HR.out];exact Np.aC λq=>nB q.name);have HU:(!s.toList == [46])=true:=by rw[dQ];simpa using nB
    have Aj:(ty != 6)=false:=by simpa using h6
    clear nB h6;go_wp2_with fail;go_ret;exact⟨ag HX.out.symm,aq.out⟩
  ·have HX:Hid (r=false):=jq (by rw[<-HR.out];exact Np.aC λq=>h6 q.type);have Aj:(ty != 6)=true:=by simpa using h6
   clear h6;go_wp2_with fail;go_ret;exact⟨ag HX.out.symm,aq.out⟩
theorem agK(s:ByteArray)(hs:s.size<=140737488355328)(ty life:Int)(dv:Value)(d:List Np.Datum)(hv:Value)(hints:List Int)(w:World)(hd:SlR bK 3 w w.heap.size dv d)(hh:SlR kP 1 w w.heap.size hv hints) :
 Calls prog 88 #[.agg #[.string s,.int .i64 ty,.int .i64 life,dv],hv] w (aFQ w.heap.size w (.bool (Np.yes (Np.VRoot ⟨s.data.toList,ty,life,d⟩ hints)))):=by
 obtain⟨r,hr⟩:=aCQ (Np.yes (Np.VRoot ⟨s.data.toList,ty,life,d⟩ hints));rw[hr];have HR:=jq hr;have HD:=jq hd;have HH:=jq hh;obtain⟨A,c,rfl,bq,bN⟩:=ak hd;obtain⟨A2,c2,rfl,fF,eK⟩:=ak hh;clear hr hd hh;have HW:Hid (∀ o,Below w.heap.size w (w.alloc o)):=jq (λo=>(vQ _ w).alloc (bQ _) _);go_enter func88,ntmps88;go_wp2_with fail;obtain⟨w1,ah⟩:=aCQ (w.alloc (.cells #[.string s,.int .i64 ty,.int .i64 life,.slice A d.length c] 26));have c0:w1.cell? ⟨w.heap.size,0,none⟩=some (.string s):=by rw[<-ah];simp[go_sem]
 have c1:w1.cell? ⟨w.heap.size,1,none⟩=some (.int .i64 ty):=by rw[<-ah];simp[go_sem]
 have c2':w1.cell? ⟨w.heap.size,2,none⟩=some (.int .i64 life):=by rw[<-ah];simp[go_sem]
 have c3:w1.cell? ⟨w.heap.size,3,none⟩=some (.slice A d.length c):=by rw[<-ah];simp[go_sem]
 have bk:w1.heap.size=w.heap.size+1:=by rw[<-ah];simp
 have aq:Hid (Below w.heap.size w w1):=jq (by rw[<-ah];exact HW.out _);rw[ah];clear ah;obtain⟨n,hn⟩:=aCQ hints.length;have HN:=jq hn;rw[hn] at HH fF eK |-;clear hn;go_loopw [5] (λi wr=>∃ k:Nat,k<=n/\i = .int .i64 k/\wr=w1/\Hid (∀ j x,j<k->hints[j]?=some x->1<=x/\x<=1000000)) (λi _=>n - (intOf i).toNat)
 case atStart=>exact⟨0,jQ _,rfl,rfl,jq (λj x hj=>by omega)⟩
 case round=>
  obtain⟨k,hk,rfl,rfl,HA⟩:=hrel;by_cases aa:k<n
  ·obtain⟨x,ac⟩:∃ x,hints[k]?=some x:=⟨_,aQ (by rw[HN.out];exact aa)⟩;obtain⟨b,o,rfl,bR,f0⟩:=Ym (HH.out.keep qV aq.out) ac;have bO:Hid (1<=x/\x<=1000000->∀ j y,j<k+1->hints[j]?=some y->1<=y/\y<=1000000):=jq (λh j y hj hy=>by
    by_cases e:j=k
    ·subst e;rw[ac] at hy;cases hy;exact h
    ·exact HA.out j y (by omega) hy)
   have HF:Hid (¬ (1<=x/\x<=1000000)->r=false):=jq (λh=>by rw[<-HR.out];exact Np.aC λq=>h (q.each x (gQ ac)));have bV:(0:Int)<=(k:Int):=by omega
   have bT:(k:Int)<(n:Int):=by omega
   clear ac;by_cases h1:x<1
   ·have HX:=jq (HF.out (by omega));have g1:decide (x<1)=true:=by simpa using h1
    clear h1;go_wp2_with fail;go_ret;exact⟨ag HX.out.symm,aq.out⟩
   ·have g1:decide (x<1)=false:=by simpa using h1
    by_cases h2:1000000<x
    ·have HX:=jq (HF.out (by omega));have g2:decide (1000000<x)=true:=by simpa using h2
     clear h1 h2;go_wp2_with fail;go_ret;exact⟨ag HX.out.symm,aq.out⟩
    ·have HX:=jq (bO.out (by omega));have g2:decide (1000000<x)=false:=by simpa using h2
     clear h1 h2;go_wp2_with fail;go_roundw
     case rel=>exact⟨k+1,by omega,by go_num,by first | rfl | trivial,HX⟩
     case measure=>simp[intOf] <;> omega
  ·have nU:Hid (∀ x∈hints,1<=x/\x<=1000000):=jq (λx hx=>by
    obtain⟨j,hj,rfl⟩:=nQ.1 hx;exact HA.out j _ (by have:=HN.out;omega) (aQ hj))
   go_wp2_with fail;refine (Jp s hs ty life _ d _ (HD.out.later cM dt aq.out)).mono ?_;rintro e w2 ⟨rfl,ae⟩;have aK:=ae.size;replace c0:=aBX ae c0;replace c1:=aBX ae c1;have ai:=aBY aq ae;clear ae c2' c3
   cases da:Np.cN ⟨s.data.toList,ty,life,d⟩ with
   | false=>
    have HX:Hid (r=false):=jq (by rw[<-HR.out];exact Np.aC λq=>by have:=q.set;rw[da] at this;cases this);clear da;go_wp2_with fail;go_ret;exact⟨ag HX.out.symm,ai.out⟩
   | true=>
    have kb:=jq da;clear da;by_cases h6:ty=6
    ·by_cases nB:s.data.toList = [46]
     ·have HU:(s.toList == [46])=true:=by rw[dQ,nB];rfl
      have Aj:(ty == 6)=true:=by simpa using h6
      have Fp:=jq nB;have H6:=jq h6;clear nB h6;by_cases bU:1<=n
      ·have g1:decide ((1:Int)<=(n:Int))=true:=by simp;omega
       by_cases ye:n<=8
       ·have HX:Hid (r=true):=jq (by rw[<-HR.out];exact Np.ba ⟨kb.out,H6.out,Fp.out,by rw[HN.out];exact⟨bU,ye⟩,nU.out⟩);have g2:decide ((n:Int)<=8)=true:=by simp;omega
        clear bU ye;go_wp2_with fail;go_ret;exact⟨ag HX.out.symm,ai.out⟩
       ·have HX:Hid (r=false):=jq (by rw[<-HR.out];exact Np.aC λq=>by have:=q.few;rw[HN.out] at this;omega);have g2:decide ((n:Int)<=8)=false:=by simp;omega
        clear bU ye;go_wp2_with fail;go_ret;exact⟨ag HX.out.symm,ai.out⟩
      ·have HX:Hid (r=false):=jq (by rw[<-HR.out];exact Np.aC λq=>by have:=q.few;rw[HN.out] at this;omega);have g1:decide ((1:Int)<=(n:Int))=false:=by simp;omega
       clear bU;go_wp2_with fail;go_ret;exact⟨ag HX.out.symm,ai.out⟩
     ·have HX:Hid (r=false):=jq (by rw[<-HR.out];exact Np.aC λq=>nB q.name);have HU:(s.toList == [46])=false:=by rw[dQ];simpa using nB
      have Aj:(ty == 6)=true:=by simpa using h6
      clear nB h6;go_wp2_with fail;go_ret;exact⟨ag HX.out.symm,ai.out⟩
    ·have HX:Hid (r=false):=jq (by rw[<-HR.out];exact Np.aC λq=>h6 q.type);have Aj:(ty == 6)=false:=by simpa using h6
     clear h6;go_wp2_with fail;go_ret;exact⟨ag HX.out.symm,ai.out⟩
end
section
open Go.RowKit Go.MapKept
def uI(W:World)(B:Nat)(e:List Value)(p:Np.Placed):Prop:=∃ (s:ByteArray) (v:Value),s.data.toList=p.zone.apex/\s.size<=140737488355328/\SlR bP 5 W B v p.zone.sets/\e = [.int .i64 p.host,.string s,v]
theorem Ey:dL uI:=λ_ _ _ _ _ ⟨s,v,h1,h2,h3,h5⟩ hb=>⟨s,v,h1,h2,h3.keep bH hb,h5⟩
theorem Js:dZ uI:=λ_ _ _ _ _ ⟨s,v,h1,h2,h3,h5⟩ hb=>⟨s,v,h1,h2,h3.more dH hb,h5⟩
theorem ZG{w:World}{B n c:Nat}{A:Option Addr}{xs:List Np.Placed}(h:SlR uI 3 w B (.slice A n c) xs){k:Nat}{x:Np.Placed}(hx:xs[k]?=some x):∃ (b o:Nat) (s:ByteArray) (v:Value),A=some ⟨b,o,none⟩/\b<B/\s.data.toList=x.zone.apex/\s.size<=140737488355328/\SlR bP 5 w B v x.zone.sets/\w.cell? ⟨b,o+k * 3,none⟩=some (.int .i64 x.host)/\w.cell? ⟨b,o+k * 3+1,none⟩=some (.string s)/\w.cell? ⟨b,o+k * 3+2,none⟩=some v:=by
 obtain⟨A',c',hA',_,_,bX⟩:=h
 cases hA'
 obtain⟨b,o,e,hA,bD,hlen,hce,s,v,h1,h2,h3,he⟩:=bX k _ hx;subst he;exact⟨b,o,s,v,hA,bD,h1,h2,h3,hce 0 _ rfl,hce 1 _ rfl,hce 2 _ rfl⟩
def ke(r n:Nat)(w:World):Prop:=∃ es c kvs,w.heap[r]?=some (.map es c)/\es.toList.map (λe=>(e.key,e.val))=(kvs:List (List UInt8×Value)).map (λp=>(av p.1,p.2))/\es.size<=n
theorem ke.lt{r n:Nat}{w:World}(h:ke r n w):r<w.heap.size:=by
 obtain⟨es,c,kvs,h,_⟩:=h;exact (eQ.1 h).1
theorem ke.keep{r k:Nat}{w w':World}{n:Nat}(h:ke r k w)(hb:Below n w w')(hn:r<n):ke r k w':=by
 obtain⟨es,c,kvs,h,h2⟩:=h;exact⟨es,c,kvs,(hb.block r hn).trans h,h2⟩
theorem ke.turned{r k r':Nat}{w w':World}(h:ke r k w)(ht:Turned r' w w')(hne:r≠r'):ke r k w':=by
 obtain⟨es,c,kvs,h,h2⟩:=h;exact⟨es,c,kvs,(ht.block r hne).trans h,h2⟩
theorem ke.made(w:World):ke w.heap.size 0 (w.alloc (.map #[] 0)):=⟨#[],0,[],heap_alloc_new _ _,rfl,bQ _⟩
theorem UU(x:List UInt8):∀ (es:List MapEntry) (kvs:List (List UInt8×Value)) (i:Nat),es.map (λe=>(e.key,e.val))=kvs.map (λp=>(av p.1,p.2))->
 (∃ j e,es[j]?=some e/\e.key=av x/\Instr.findNow .string (av x) es i=some (some (i+j,e.val)))\/Instr.findNow .string (av x) es i=some none:=by
 intro es
 induction es with
 | nil=>
  intro kvs i h;exact .inr rfl
 | cons e es ih=>
  intro kvs i h
  cases kvs with
  | nil=>simp at h
  | cons p kvs=>
   obtain⟨y,u⟩:=p;simp only[List.map_cons,List.cons.injEq,Prod.mk.injEq] at h;obtain⟨⟨h1,h2⟩,h3⟩:=h;have hs:Instr.sameNow .string (av x) e.key=some (x == y):=by rw[h1];simp only[Instr.sameNow];rw[Qu]
   by_cases cB:x=y
   ·subst cB;have hb:(x == x)=true:=by simp
    rw[hb] at hs;exact .inl ⟨0,e,rfl,h1,by simp only[Instr.findNow,hs];rfl⟩
   ·have hb:(x == y)=false:=by simpa using cB
    rw[hb] at hs;rcases ih kvs (i+1) h3 with ⟨j,e',j1,j2,j3⟩ | h4
    ·exact .inl ⟨j+1,e',by simpa using j1,j2,by simp only[Instr.findNow,hs];rw[j3,show i+1+j=i+(j+1) by omega]⟩
    ·exact .inr (by simp only[Instr.findNow,hs];exact h4)
theorem Yy(a:ByteArray)(P:Program)(w:World):(Instr.keyThatStays (.string a) (.string a)).run P w = .ok (.string a) w:=by
 have h1:(a == a)=true:=by
  show (a.data == a.data)=true;simp
 have:Instr.sameBits 10000 (.string a) (.string a)=true:=by simp[Instr.sameBits,h1]
 simp[Instr.keyThatStays,this]
section
variable {P:Program} {ops:Array Oper} {rest:List Oper} {o:Oper} {a:Act} {Q:Exit->Act->World->Prop}
theorem azX(w:World)(hg:o.guard=none)(m x v:Operand)(t:TypeId)(jO:o.op=Op.mapUpdate t m x v)(kt et:TypeId)(ht:P.underlying t=some (.map kt et))(hk:P.underlying kt=some .string)
 (r n:Nat) (hm:a.eval m = .map (some r)) (hr:ke r n w) (key:List UInt8) (hx:a.eval x=av key) (val:Value) (hv:a.eval v=val)
 (hK:∀ w',ke r (n+1) w'->Turned r w w'->wpList P ops Q rest (a.put o.dst undef) w'):wpList P ops Q (o::rest) a w:=by
 obtain⟨es,c,kvs,hr,he,hn⟩:=hr;refine wpList_plain hg λK' hK'=>?_;have hc:(Instr.checkKey false 10000 kt (av key)).run P w = .ok () w:=MapKept.run_checkKey (k:=av key) hk (by simp[MapKept.IsKey]) false 9999;have hl:r<w.heap.size:=(eQ.1 hr).1;rcases UU key es.toList kvs 0 he with ⟨j,e,j1,j2,hf⟩ | hf
 ·have jM:(Instr.keyThatStays (((es[j]?).map (·.key)).getD (av key)) (av key)).run P w = .ok (av key) w:=by
   rw[Array.getElem?_toList] at j1;rw[j1];simp only[Option.map_some,Option.getD_some];rw[j2];exact Yy _ P w
  rw[Nat.zero_add] at hf;have dz:(Instr.mapUpdate t (.map (some r)) (av key) val).run P w = .ok () { w with heap:=w.heap.setIfInBounds r (.map (es.modify j λe=>{ e with key:=av key,val:=val }) c) }:=by
   simp[Instr.mapUpdate,run_underlying ht,MapKept.run_getObj_map hr,hc,MapKept.run_findKey hk hf,jM,MapKept.run_setObj_map _ hr,Result.andThen]
  unfold Oper.wp;simp[execOp,jO,hm,hx,hv,dz,Result.andThen];refine hK' _ _ (hK _ ⟨es.modify j λe=>{ e with key:=av key,val:=val },c,kvs.modify j λ_=>(key,val),by simp[hl],?_,by simp;omega⟩ ⟨rfl,rfl,rfl,by simp,λi hi=>by simp[Ne.symm hi]⟩);apply List.ext_getElem?;intro i;have hi:=Qd (λl=>l[i]?) he;simp only[List.getElem?_map] at hi |-;rw[Array.toList_modify,List.getElem?_modify,List.getElem?_modify];by_cases dp:j=i
  ·subst dp;simp only[if_true]
   cases h1:es.toList[j]? <;> cases h2:kvs[j]? <;> simp[h1,h2] at hi |-
  ·simp only[Qc dp];simpa using hi
 ·have dz:(Instr.mapUpdate t (.map (some r)) (av key) val).run P w = .ok () { w with heap:=w.heap.setIfInBounds r (.map (es.push { key:=av key,val:=val,born:=c }) (c+1)) }:=by
   simp[Instr.mapUpdate,run_underlying ht,MapKept.run_getObj_map hr,hc,MapKept.run_findKey hk hf,MapKept.run_setObj_map _ hr,Result.andThen]
  unfold Oper.wp;simp[execOp,jO,hm,hx,hv,dz,Result.andThen];exact hK' _ _ (hK _ ⟨es.push { key:=av key,val:=val,born:=c },c+1,kvs ++ [(key,val)],by simp[hl],by simp[he],by simp;omega⟩ ⟨rfl,rfl,rfl,by simp,λi hi=>by simp[Ne.symm hi]⟩)
end
theorem BM{α:Type}[BEq α][LawfulBEq α][DecidableEq α](l:List α)(x:α):((l.map λy=>(y,Value.bool true)).lookup x).getD (.bool false) = .bool (decide (x∈l)):=by
 induction l with
 | nil=>simp
 | cons y l ih=>
  rw[List.map_cons,List.lookup_cons];by_cases h:x=y
  ·subst h;simp
  ·have hb:(x == y)=false:=by simpa using h
   rw[hb];simp only[ih,List.mem_cons,h,false_or]
theorem Ef{α:Type}[BEq α][LawfulBEq α](l:List α)(x:α)(h:x∉l):(l.map λy=>(y,Value.bool true)).lookup x=none:=by
 induction l with
 | nil=>rfl
 | cons y l ih=>
  have hb:(x == y)=false:=by
   rw[beq_eq_false_iff_ne];intro e;exact h (by simp[e])
  rw[List.map_cons,List.lookup_cons,hb];exact ih (λhm=>h (mQ _ hm))
def Np.iZ(p:Np.Placed):Int×List UInt8:=(p.host,p.zone.apex)
def Np.CJ(n:Nat)(p:Np.Placed):Prop:=(0<=p.host/\p.host<n)/\Np.VZone p.zone
def Np.pw(n:Nat)(l:List Np.Placed):Prop:=(∀ p∈l,Np.CJ n p)/\l.Pairwise λp q=>¬ (p.host=q.host/\p.zone.apex=q.zone.apex)
theorem avQ{n k:Nat}{l:List Np.Placed}{x:Np.Placed}(hx:l[k]?=some x)(h:Np.pw n l):Np.CJ n x/\Np.iZ x∉(l.take k).map Np.iZ:=by
 refine⟨h.1 x (gQ hx),λhm=>?_⟩;obtain⟨y,hy,he⟩:=List.mem_map.1 hm;have h1:(l.take k ++ [x]).Pairwise λp q=>¬ (p.host=q.host/\p.zone.apex=q.zone.apex):=by
  obtain⟨hl,he⟩:=cQ.1 hx
  have:l.take k ++ [x]=l.take (k+1):=by rw[fQ hl,he]
  rw[this];exact h.2.sublist (List.take_sublist _ _)
 have h2:=(List.pairwise_append.1 h1).2.2 y hy x (by simp);unfold Np.iZ at he;simp only[Prod.mk.injEq] at he;exact h2 he
theorem avZ{n k:Nat}{l:List Np.Placed}{x:Np.Placed}(hx:l[k]?=some x)(h:Np.pw n (l.take k))(h1:Np.CJ n x)(h2:Np.iZ x∉(l.take k).map Np.iZ):Np.pw n (l.take (k+1)):=by
 obtain⟨hl,he⟩:=cQ.1 hx;have ht:l.take (k+1)=l.take k ++ [x]:=by rw[fQ hl,he]
 rw[ht];refine⟨λp hp=>?_,List.pairwise_append.2 ⟨h.2,by simp,λy hy z hz D5=>?_⟩⟩
 ·rcases List.mem_append.1 hp with hp | hp
  ·exact h.1 p hp
  ·rw[List.mem_singleton] at hp;subst hp;exact h1
 ·rw[List.mem_singleton] at hz;subst hz;exact h2 (List.mem_map.2 ⟨y,hy,by unfold Np.iZ;simp[D5.1,D5.2]⟩)
theorem auJ(hv:Value)(n:Nat)(hn:∃ A c,hv = .slice A n c)(zv:Value)(l:List Np.Placed)(sv:Value)(ty life:Int)(dv dV:Value)(s:ByteArray)(bh:sv = .string s)(hl:l.length<=500)(hz:∀ p∈l,p.zone.sets.length<=20000)(w:World)(hR:iR w w.heap.size)(hd:SlR uI 3 w w.heap.size zv l) :
 Calls prog 181 #[.agg #[hv,zv,sv,.int .i64 ty,.int .i64 life,dv,dV]] w λe w'=>e = .returned (.bool (Np.yes (Np.pw n l)))/\Below w.heap.size w w':=by
 obtain⟨r,hr⟩:=aCQ (Np.yes (Np.pw n l));rw[hr];have HR:=jq hr;have HD:=jq hd;have fV:=jq hR;have HZ:=jq hz;obtain⟨Ah,ch,rfl⟩:=hn;obtain⟨A,c,rfl,bq,bN⟩:=ak hd;subst bh;clear hr hd hR hz;have aLJ:∀ (w:World),(Instr.makeMap 299 none).run prog w = .ok (.map (some w.heap.size)) (w.alloc (.map #[] 0)):=λw=>by
  simp[Instr.makeMap,Result.andThen]
 have aLK:∀ (w:World),(Instr.makeMap 111 none).run prog w = .ok (.map (some w.heap.size)) (w.alloc (.map #[] 0)):=λw=>by
  simp[Instr.makeMap,Result.andThen]
 have gH:decide (4000<(l.length:Int))=false:=aDJ;go_enter func181,ntmps181;go_wp2_with fail;obtain⟨w1,ah⟩:=aCQ (((w.alloc (.cells #[.slice Ah n ch,.slice A l.length c,.string s,.int .i64 ty,.int .i64 life,dv,dV] 68)).alloc (.map #[] 0)).alloc (.map #[] 0));obtain⟨X,hX⟩:=aCQ w.heap.size;obtain⟨X1,oI⟩:=aCQ (X+1);obtain⟨X2,Du⟩:=aCQ (X1+1);have uv:Hid (jA X1 [] w1):=jq (by
  rw[<-ah,<-oI,<-hX];have h0:=jA.made (w.alloc (.cells #[.slice Ah n ch,.slice A l.length c,.string s,.int .i64 ty,.int .i64 life,dv,dV] 68));rw[show w.heap.size+1=(w.alloc (.cells #[.slice Ah n ch,.slice A l.length c,.string s,.int .i64 ty,.int .i64 life,dv,dV] 68)).heap.size by simp];exact h0.keep ((vQ _ _).alloc (bQ _) _) (by simp))
 have R8:Hid (ke X2 0 w1):=jq (by
  rw[<-ah,<-Du,<-oI,<-hX];have h0:=ke.made ((w.alloc (.cells #[.slice Ah n ch,.slice A l.length c,.string s,.int .i64 ty,.int .i64 life,dv,dV] 68)).alloc (.map #[] 0));simpa using h0)
 have aq:Hid (Below X w w1):=jq (by rw[<-ah,<-hX];exact (((vQ _ _).alloc (bQ _) _).alloc (by simp) _).alloc (by simp;omega) _);have RA:Hid (w1.cell? ⟨X,0,none⟩=some (.slice Ah n ch)):=jq (by rw[<-ah,<-hX];simp[go_sem]);have bk:X2<w1.heap.size:=by rw[<-ah,<-Du,<-oI,<-hX];simp
 rw[ah,hX,oI,Du];have hlX:X<X1:=by omega
 have aJJ:X1<X2:=by omega
 rw[hX] at HD fV;have kM:=jq hX;clear ah oI Du;go_loopw [17] (λi wr=>∃ k:Nat,k<=l.length/\i = .int .i64 k/\Hid (Below X w wr)/\X2<wr.heap.size/\Hid (wr.cell? ⟨X,0,none⟩=some (.slice Ah n ch))/\Hid (jA X1 (((l.take k).map Np.iZ).map λy=>(y,Value.bool true)) wr)/\Hid (ke X2 k wr)/\Hid (Np.pw n (l.take k))) (λi _=>l.length - (intOf i).toNat)
 case atStart=>exact⟨0,jQ _,rfl,aq,bk,RA,uv,R8,jq ⟨λp hp=>by simp at hp,by simp⟩⟩
 case round=>
  obtain⟨k,hk,rfl,HB,dJ,HC,HM,HN,HV⟩:=hrel;have Ho:=HC.out;by_cases aa:k<l.length
  ·obtain⟨x,ac⟩:∃ x,l[k]?=some x:=⟨_,aQ aa⟩;obtain⟨b,o,sn,vz,rfl,bR,ar,cZ,gd,f0,f1,f2⟩:=ZG (HD.out.keep Ey HB.out) ac;have fU:=jq (avQ (n:=n) (k:=k) ac);have dF:=jq (λh1 h2=>avZ ac HV.out h1 h2);have HF:Hid (¬ Np.CJ n x->r=false):=jq (λh=>by rw[<-HR.out];exact Np.aC λq=>h (fU.out q).1);have um:Hid (Np.iZ x∈(l.take k).map Np.iZ->r=false):=jq (λh=>by rw[<-HR.out];exact Np.aC λq=>(fU.out q).2 h);have HT:Hid ((l.take (k+1)).map Np.iZ=(l.take k).map Np.iZ ++ [Np.iZ x]):=jq (by
    obtain⟨hl,he⟩:=cQ.1 ac;rw[fQ hl,he,List.map_append];rfl)
   have zH:Hid (x.zone.sets.length<=20000):=jq (HZ.out x (gQ ac));have iv:Hid (Np.iZ x=(x.host,sn.data.toList)):=jq (by unfold Np.iZ;rw[ar]);obtain⟨Az,cz,rfl,_,_⟩:=ak gd;obtain⟨nz,jN⟩:=aCQ x.zone.sets.length;have aS:=jq ar;rw[jN] at f2;have iN:Hid (SlR bP 5 wr wr.heap.size (.slice Az nz cz) x.zone.sets):=jq (by rw[<-jN];exact gd.more dH (by have:=HB.out.size;omega));obtain⟨w2,aj⟩:=aCQ (wr.alloc (.cells #[.int .i64 x.host,.string sn,.slice Az nz cz] 72));obtain⟨w3,eE⟩:=aCQ (w2.alloc (.cells #[.int .i64 x.host,.string sn] 301));have aK:w2.heap.size=wr.heap.size+1:=by rw[<-aj];simp
   have eF:w3.heap.size=w2.heap.size+1:=by rw[<-eE];simp
   have ae:Below wr.heap.size wr w2:=by rw[<-aj];exact (vQ _ _).alloc (bQ _) _
   have al:Below wr.heap.size wr w3:=by rw[<-eE];exact ae.alloc (by omega) _
   have p0:w2.cell? ⟨wr.heap.size,0,none⟩=some (.int .i64 x.host):=by rw[<-aj];simp[go_sem]
   have p1:w2.cell? ⟨wr.heap.size,1,none⟩=some (.string sn):=by rw[<-aj];simp[go_sem]
   have q0:w3.cell? ⟨wr.heap.size,0,none⟩=some (.int .i64 x.host):=by rw[<-eE,<-p0];simp[go_sem,aK]
   have q1:w3.cell? ⟨wr.heap.size,1,none⟩=some (.string sn):=by rw[<-eE,<-p1];simp[go_sem,aK]
   have q2:w3.cell? ⟨wr.heap.size,2,none⟩=some (.slice Az nz cz):=by rw[<-eE,<-aj];simp[go_sem]
   have r0:w3.cell? ⟨wr.heap.size+1,0,none⟩=some (.int .i64 x.host):=by rw[<-eE,<-aK];simp[go_sem]
   have r1:w3.cell? ⟨wr.heap.size+1,1,none⟩=some (.string sn):=by rw[<-eE,<-aK];simp[go_sem]
   have M7:w3.cell? ⟨X,0,none⟩=some (.slice Ah n ch):=aBX al Ho;have am:=aBY HB al;have oa:Hid (jA X1 (((l.take k).map Np.iZ).map λy=>(y,Value.bool true)) w3):=jq (HM.out.keep al (by omega));have Cq:Hid (ke X2 k w3):=jq (HN.out.keep al dJ);have kJ:Hid (SlR bP 5 w3 w3.heap.size (.slice Az nz cz) x.zone.sets):=jq ((iN.out.keep bH al).more dH al.size);have ot:Hid (X2<w3.heap.size):=jq (by omega);have dN:(Instr.lookup 299 (.map (some X1)) (.agg #[.int .i64 x.host,.string sn]) false).run prog w3 = .ok (.bool (decide ((x.host,sn.data.toList)∈(l.take k).map Np.iZ))) w3:=by
    have:=akZ w3 299 4 underlying299 X1 _ oa.out (x.host,sn.data.toList) (.bool false) (by kernel_rfl)
    rw[BM] at this;exact this
   rw[<-iv.out] at dN;clear ac ar gd ae al jN HM HN iN;by_cases g1:x.host<0
   ·have d1:decide (x.host<0)=true:=uQ g1;have HX:Hid (r=false):=jq (HF.out λh=>by have:=h.1;omega);clear g1;go_wp2_with fail;go_ret;exact⟨ag HX.out.symm,by rw[kM.out];exact am.out⟩
   ·have d1:decide (x.host<0)=false:=tQ g1;by_cases g2:(n:Int)<=x.host
    ·have d2:decide ((n:Int)<=x.host)=true:=uQ g2;have HX:Hid (r=false):=jq (HF.out λh=>by have:=h.1;omega);clear g1 g2;go_wp2_with fail;go_ret;exact⟨ag HX.out.symm,by rw[kM.out];exact am.out⟩
    ·have d2:decide ((n:Int)<=x.host)=false:=tQ g2;have HG:Hid (0<=x.host/\x.host<n):=jq (by omega);clear g1 g2;by_cases g3:Np.iZ x∈(l.take k).map Np.iZ
     ·rw[uQ g3] at dN;have HX:Hid (r=false):=jq (um.out g3);clear g3;go_wp2_with fail;go_ret;exact⟨ag HX.out.symm,by rw[kM.out];exact am.out⟩
     ·rw[tQ g3] at dN;have cw:=jq g3;clear g3;go_wp2_with fail;refine (Q4 sn cZ _ x.zone.sets zH.out w3 ((fV.out.keep am.out).more (by have:=am.out.size;omega)) kJ.out).mono ?_;rintro e w4 ⟨rfl,aw⟩;have fd:w3.heap.size<=w4.heap.size:=aw.size;have s0:w4.cell? ⟨wr.heap.size,0,none⟩=some (.int .i64 x.host):=aBX aw q0;have s1:w4.cell? ⟨wr.heap.size,1,none⟩=some (.string sn):=aBX aw q1;have s2:w4.cell? ⟨wr.heap.size,2,none⟩=some (.slice Az nz cz):=aBX aw q2;have t0:w4.cell? ⟨wr.heap.size+1,0,none⟩=some (.int .i64 x.host):=aBX aw r0;have t1:w4.cell? ⟨wr.heap.size+1,1,none⟩=some (.string sn):=aBX aw r1;have aP:=aBY am aw;have xm:Hid (jA X1 (((l.take k).map Np.iZ).map λy=>(y,Value.bool true)) w4):=jq (oa.out.keep aw (by omega));have FL:Hid (ke X2 k w4):=jq (Cq.out.keep aw ot.out);have DC:w4.cell? ⟨X,0,none⟩=some (.slice Ah n ch):=aBX aw M7;have el:=jq DC;clear aw p0 p1 q0 q1 q2 r0 r1 aj eE f0 f1 f2 dN M7 oa Cq;obtain⟨rz,eM⟩:=aCQ (Np.yes (Np.VZone ⟨sn.data.toList,x.zone.sets⟩));rw[eM];have ix:=jq eM;clear eM
      cases rz with
      | false=>
       have HX:Hid (r=false):=jq (HF.out λh=>by
        have h1:=h.2;have h2:x.zone=⟨sn.data.toList,x.zone.sets⟩:=by rw[aS.out]
        rw[h2] at h1;have h3:=Np.ba h1;rw[ix.out] at h3
        cases h3)
       go_wp2_with fail;go_ret;exact⟨ag HX.out.symm,by rw[kM.out];exact aP.out⟩
      | true=>
       have uE:Hid (Np.pw n (l.take (k+1))):=jq (dF.out ⟨HG.out,by
        have h2:x.zone=⟨sn.data.toList,x.zone.sets⟩:=by rw[aS.out]
        rw[h2];exact Np.fj.1 ix.out⟩ cw.out)
       have Sd:Hid ((((l.take k).map Np.iZ).map λy=>(y,Value.bool true)).lookup (x.host,sn.data.toList)=none):=jq (by rw[<-iv.out];exact Ef _ _ cw.out);go_wp2_with (at_mapUpdate;first
        | (refine azY _ rfl _ _ _ 299 rfl 4 underlying299 X1 _ rfl xm.out (x.host,sn.data.toList) rfl (.bool true) rfl Sd.out ?_;intro w5 mA lT;have s1':w5.cell? ⟨wr.heap.size,1,none⟩=some (.string sn):=(lT.cell (by dsimp only;omega)).trans s1;have H5:=jq (And.intro mA lT);have R9:=jq (FL.out.turned lT (by omega));clear mA lT s0 s1 s2 t0 t1 DC)
        | (refine azX _ rfl _ _ _ 111 rfl 9 4 underlying111 underlying9 X2 k rfl R9.out sn.data.toList rfl (.bool true) rfl ?_;intro w6 NL Og;have H6:=jq (And.intro NL Og);clear NL Og))
       go_roundw
       case rel=>
        refine⟨k+1,by omega,by go_num,jq (((aP.out.trans (H5.out.2.below (by omega))).trans (H6.out.2.below (by omega)))),by rw[H6.out.2.size,H5.out.2.size];have:=ot.out;omega,jq ((H6.out.2.cell (by dsimp only;omega)).trans ((H5.out.2.cell (by dsimp only;omega)).trans el.out)),jq ?_,jq H6.out.1,uE⟩;have h1:=H5.out.1.keep' (w':=w6) (H6.out.2.block _ (by omega));rw[HT.out,List.map_append,iv.out];exact h1
       case measure=>simp[intOf] <;> omega
  ·have zA:Hid (Np.pw n l):=jq (by have:=HV.out;rwa [kQ (by omega)] at this);obtain⟨es,ce,kvs,hes,_,an⟩:=HN.out;have Wd:decide ((es.size:Int)<=500)=true:=aDX;have ya:(Builtin.len_ #[111] 3 #[.map (some X2)]).run prog wr = .ok (.int .i64 (es.size:Int)) wr:=by
    simp[Builtin.len_,run_underlying underlying111,MapKept.run_getObj_map hes,Result.andThen,goInt]
   obtain⟨m5,mA⟩:=aCQ es.size;rw[mA] at ya Wd;clear hes mA;go_wp2_with fail;go_ret;exact⟨ag (by rw[<-HR.out];exact (Np.ba zA.out).symm),by rw[kM.out];exact HB.out⟩
def ma(W:World)(B:Nat)(e:List Value)(c:Np.Copy):Prop:=∃ (s:ByteArray) (v:Value),s.data.toList=c.zone.apex/\s.size<=140737488355328/\SlR bP 5 W B v c.zone.sets/\e = [.int .i64 c.host,.int .i64 c.frm,.int .i64 c.til,.string s,v]
theorem oY:dL ma:=λ_ _ _ _ _ ⟨s,v,h1,h2,h3,h5⟩ hb=>⟨s,v,h1,h2,h3.keep bH hb,h5⟩
theorem BU:dZ ma:=λ_ _ _ _ _ ⟨s,v,h1,h2,h3,h5⟩ hb=>⟨s,v,h1,h2,h3.more dH hb,h5⟩
theorem uP{w:World}{B n c:Nat}{A:Option Addr}{xs:List Np.Copy}(h:SlR ma 5 w B (.slice A n c) xs){k:Nat}{x:Np.Copy}(hx:xs[k]?=some x):∃ (b o:Nat) (s:ByteArray) (v:Value),A=some ⟨b,o,none⟩/\b<B/\s.data.toList=x.zone.apex/\s.size<=140737488355328/\SlR bP 5 w B v x.zone.sets/\w.cell? ⟨b,o+k * 5,none⟩=some (.int .i64 x.host)/\w.cell? ⟨b,o+k * 5+1,none⟩=some (.int .i64 x.frm)/\w.cell? ⟨b,o+k * 5+2,none⟩=some (.int .i64 x.til)/\w.cell? ⟨b,o+k * 5+3,none⟩=some (.string s)/\w.cell? ⟨b,o+k * 5+4,none⟩=some v:=by
 obtain⟨A',c',hA',_,_,bX⟩:=h
 cases hA'
 obtain⟨b,o,e,hA,bD,hlen,hce,s,v,h1,h2,h3,he⟩:=bX k _ hx;subst he;exact⟨b,o,s,v,hA,bD,h1,h2,h3,hce 0 _ rfl,hce 1 _ rfl,hce 2 _ rfl,hce 3 _ rfl,hce 4 _ rfl⟩
theorem Tt(h f u:Int)(s:ByteArray)(v:Value)(w:World) :
 Calls prog 125 #[.agg #[.int .i64 h,.int .i64 f,.int .i64 u,.string s,v]] w (aFQ w.heap.size w (.string s)):=by
 have HB:Hid (∀ o,Below w.heap.size w (w.alloc o)):=jq (λo=>(vQ _ w).alloc (bQ _) _);go_enter func125,ntmps125;go_wp2_with fail;go_ret;exact⟨rfl,HB.out _⟩
theorem cG.turned{base r:Nat}{w w':World}{v:Value}{ps:List (List UInt8)}(h:cG base w v ps)(ht:Turned r w w')(hr:r<base):cG base w' v ps:=gY h (λg hg=>ht.block g (by have:=(h.lt g hg).1;omega))
theorem cG.weak{base base':Nat}{w:World}{v:Value}{ps:List (List UInt8)}(h:cG base w v ps)(hb:base'<=base):cG base' w v ps:=by
 refine⟨h.1,?_⟩;rcases h.2 with h2 | ⟨g,cap,cur,h1,h2,h3⟩
 ·exact .inl h2
 ·exact .inr ⟨g,cap,cur,h1,yQ hb h2,h3⟩
def B2(ks:List (List UInt8)):List (List UInt8×Value):=ks.map λy=>(y,Value.bool true)
theorem QD(v:Value)(l:List Np.Copy)(cg:l.length<=20000)(w:World)(h:SlR ma 5 w w.heap.size v l) :
 Calls prog 124 #[v,.func (.func 125) #[] #[]] w λe w'=>∃ v',e = .returned v'/\cG w.heap.size w' v' (Np.dg (l.map (·.zone.apex)))/\Below w.heap.size w w':=by
 have HD:=jq h;obtain⟨A,c,rfl,bq,bN⟩:=ak h;clear h;have lN:∀ (w:World),(Instr.makeMap 111 none).run prog w = .ok (.map (some w.heap.size)) (w.alloc (.map #[] 0)):=λw=>by
  simp[Instr.makeMap,Result.andThen]
 have lB:Hid (∀ k,(Np.dg ((l.take k).map (·.zone.apex))).length<=20000):=jq (λk=>by
  have h1:=Np.ua ((l.take k).map (·.zone.apex));rw[List.length_map,List.length_take] at h1;omega)
 go_enter func124,ntmps124;go_wp2_with fail;have uv:=jq (dj.made w);have aq:Hid (Below w.heap.size w (w.alloc (.map #[] 0))):=jq ((vQ _ w).alloc (bQ _) _);have bk:w.heap.size<(w.alloc (.map #[] 0)).heap.size:=by simp
 generalize w.alloc (.map #[] 0)=w1 at *;go_loopw [6,13] (λvo i wr=>∃ k:Nat,k<=l.length/\i = .int .i64 k/\Hid (Below w.heap.size w wr)/\w.heap.size<wr.heap.size/\Hid (dj w.heap.size (B2 (Np.dg ((l.take k).map (·.zone.apex)))) wr)/\Hid (cG (w.heap.size+1) wr vo (Np.dg ((l.take k).map (·.zone.apex))))) (λ_ i _=>l.length - (intOf i).toNat)
 case atStart=>exact⟨0,jQ _,rfl,aq,bk,uv,jq ⟨by simp[Np.dg],.inl ⟨rfl,rfl⟩⟩⟩
 case round=>
  obtain⟨k,hk,rfl,HB,dJ,HM,HO⟩:=hrel;by_cases aa:k<l.length
  ·obtain⟨x,ac⟩:∃ x,l[k]?=some x:=⟨_,aQ aa⟩;obtain⟨b,o,sn,vz,rfl,bR,ar,cZ,gd,f0,f1,f2,f3,f4⟩:=uP (HD.out.keep oY HB.out) ac;obtain⟨Az,cz,rfl,_,_⟩:=ak gd;obtain⟨nz,jN⟩:=aCQ x.zone.sets.length;rw[jN] at f4;obtain⟨ks,jM⟩:=aCQ (Np.dg ((l.take k).map (·.zone.apex)));have HT:Hid (Np.dg ((l.take (k+1)).map (·.zone.apex))=Np.iC ks sn.data.toList):=jq (by
    obtain⟨hl,he⟩:=cQ.1 ac;rw[fQ hl,he,List.map_append,<-jM,ar];exact Np.yH _ _)
   have n9:Hid (ks.length<=20000):=jq (by rw[<-jM];exact lB.out k);rw[jM] at HM HO;obtain⟨w2,aj⟩:=aCQ (wr.alloc (.cells #[.int .i64 x.host,.int .i64 x.frm,.int .i64 x.til,.string sn,.slice Az nz cz] 46));have ae:Below wr.heap.size wr w2:=by rw[<-aj];exact (vQ _ _).alloc (bQ _) _
   have aK:wr.heap.size<w2.heap.size:=by rw[<-aj];simp
   have p0:w2.cell? ⟨wr.heap.size,0,none⟩=some (.int .i64 x.host):=by rw[<-aj];simp[go_sem]
   have p1:w2.cell? ⟨wr.heap.size,1,none⟩=some (.int .i64 x.frm):=by rw[<-aj];simp[go_sem]
   have p2:w2.cell? ⟨wr.heap.size,2,none⟩=some (.int .i64 x.til):=by rw[<-aj];simp[go_sem]
   have p3:w2.cell? ⟨wr.heap.size,3,none⟩=some (.string sn):=by rw[<-aj];simp[go_sem]
   have p4:w2.cell? ⟨wr.heap.size,4,none⟩=some (.slice Az nz cz):=by rw[<-aj];simp[go_sem]
   have ai:=jq ae;have an:=HB.out.size;clear ac ar gd jN jM ae;go_wp2_with fail;refine (Tt _ _ _ _ _ _).mono ?_;rintro e w3 ⟨rfl,al⟩;have am:=aBY ai al;have eF:wr.heap.size<w3.heap.size:=by have:=al.size;omega
   have oa:Hid (dj w.heap.size (B2 ks) w3):=jq (HM.out.keep am.out dJ);have ia:Hid (cG (w.heap.size+1) w3 _ ks):=jq (HO.out.keep am.out);clear al aj p0 p1 p2 p3 p4 f0 f1 f2 f3 f4;have iV:=ED (P:=prog) w3 111 9 4 underlying111 underlying9 w.heap.size _ oa.out sn.data.toList (.bool false) (by kernel_rfl);unfold B2 at iV;rw[BM] at iV;by_cases hin:sn.data.toList∈ks
   ·have iy:Hid (Np.dg ((l.take (k+1)).map (·.zone.apex))=ks):=jq (by rw[HT.out,Np.CP hin]);rw[uQ hin] at iV;clear hin;go_wp2_with fail;go_roundw
    case rel=>exact⟨k+1,by omega,by go_num,aBY HB am.out,by omega,jq (by rw[iy.out];exact oa.out),jq (by rw[iy.out];exact ia.out)⟩
    case measure=>simp[intOf] <;> omega
   ·have iy:Hid (Np.dg ((l.take (k+1)).map (·.zone.apex))=ks ++ [sn.data.toList]):=jq (by rw[HT.out,Np.iC,Qc hin]);have cw:Hid ((B2 ks).lookup sn.data.toList=none):=jq (Ef _ _ hin);rw[tQ hin] at iV;clear hin;go_wp2_with (first
     | (at_mapUpdate;refine QU _ rfl _ _ _ 111 rfl 9 4 underlying111 underlying9 w.heap.size _ rfl oa.out sn.data.toList rfl (.bool true) rfl cw.out ?_;intro w5 mA lT;have H5:=jq (And.intro mA lT);have pp:Hid (cG (w.heap.size+1) w5 _ ks):=jq (cG.turned ia.out lT (by omega));have iJ:wr.heap.size<w5.heap.size:=(by rw[lT.size];exact eF);clear mA lT)
     | (at_builtin;refine yJ _ rfl _ _ rfl (w.heap.size+1) _ ks rfl (pp.out.alloc _) w5.heap.size sn.data.toList (by simp[go_sem]) (by simp[go_sem]) (by have:=n9.out;omega) (by simp;omega) ?_;intro v6 w6 nK aR;have H6:=jq (And.intro nK aR);clear nK aR))
    go_roundw
    case rel=>exact⟨k+1,by omega,by go_num,jq ((((HB.out.trans (am.out.aDQ)).trans (H5.out.2.below (bQ _))).alloc (by omega) _).trans (H6.out.2.aDQ)),by have:=H6.out.2.size;simp at this;omega,jq (by rw[iy.out];unfold B2;rw[List.map_append];exact (H5.out.1.keep ((vQ _ _).alloc (bQ _) _) (by omega)).keep H6.out.2 (by omega)),jq (by rw[iy.out];exact H6.out.1)⟩
    case measure=>simp[intOf] <;> omega
  ·have HE':Hid (l.take k=l):=jq (kQ (by omega));go_wp2_with fail;go_ret;exact⟨_,rfl,by have:=HO.out.weak (Nat.le_succ _);rw[HE'.out] at this;exact this,HB.out⟩
theorem avX{w:Np.WorldP} : Np.VWorld w↔(Np.VHosts w.hosts/\Np.pw w.hosts.length w.zones)/\Np.VRoot w.anchor w.hints:=
 ⟨λh=>⟨⟨h.hosts,h.each,h.apart⟩,h.root⟩,λh=>⟨h.1.1,h.2,h.1.2.1,h.1.2.2⟩⟩
theorem axQ(hv:Value)(hs:List Np.Host)(zv:Value)(l:List Np.Placed)(s:ByteArray)(an:s.size<=140737488355328)(ty life:Int)(dv:Value)(d:List Np.Datum)(dV:Value)(hints:List Int)(hl:l.length<=500)(hz:∀ p∈l,p.zone.sets.length<=20000)(w:World)(hR:iR w w.heap.size)
 (hh:SlR kf 3 w w.heap.size hv hs) (hd:SlR uI 3 w w.heap.size zv l) (hdd:SlR bK 3 w w.heap.size dv d) (pF:SlR kP 1 w w.heap.size dV hints) :
 Calls prog 110 #[.agg #[hv,zv,.string s,.int .i64 ty,.int .i64 life,dv,dV]] w (aFQ w.heap.size w (.bool (Np.yes (Np.VWorld ⟨hs,l,⟨s.data.toList,ty,life,d⟩,hints⟩)))):=by
 obtain⟨r,hr⟩:=aCQ (Np.yes (Np.VWorld ⟨hs,l,⟨s.data.toList,ty,life,d⟩,hints⟩));rw[hr];have HR:Hid (Np.yes ((Np.VHosts hs/\Np.pw hs.length l)/\Np.VRoot ⟨s.data.toList,ty,life,d⟩ hints)=r):=jq (by rw[<-hr];exact (Np.sw (avX (w:=⟨hs,l,⟨s.data.toList,ty,life,d⟩,hints⟩))).symm);have HH:=jq hh;have HD:=jq hd;have qd:=jq hdd;have qj:=jq pF;have fV:=jq hR;obtain⟨A1,c1,rfl,_,_⟩:=ak hh;obtain⟨A2,c2,rfl,_,_⟩:=ak hd;obtain⟨A3,c3,rfl,_,_⟩:=ak hdd;obtain⟨A4,c4,rfl,_,_⟩:=ak pF;clear hr hd hR hh hdd pF;obtain⟨W1,ap⟩:=aCQ (w.alloc (.cells #[.slice A1 hs.length c1,.slice A2 l.length c2,.string s,.int .i64 ty,.int .i64 life,.slice A3 d.length c3,.slice A4 hints.length c4] 68));have aD:Below w.heap.size w W1:=by rw[<-ap];exact (vQ _ _).alloc (bQ _) _
 have jR:W1.heap.size=w.heap.size+1:=by rw[<-ap];simp
 obtain⟨n1,bU⟩:=aCQ hs.length;obtain⟨n2,cV⟩:=aCQ l.length;obtain⟨n3,eY⟩:=aCQ d.length;obtain⟨n4,fI⟩:=aCQ hints.length;rw[bU,cV,eY,fI] at ap;rw[bU] at HH HR;rw[cV] at HD;rw[eY] at qd;rw[fI] at qj;rw[bU,cV,eY,fI];have k0:W1.cell? ⟨w.heap.size,0,none⟩=some (.slice A1 n1 c1):=by rw[<-ap];simp[go_sem]
 have k1:W1.cell? ⟨w.heap.size,1,none⟩=some (.slice A2 n2 c2):=by rw[<-ap];simp[go_sem]
 have k2:W1.cell? ⟨w.heap.size,2,none⟩=some (.string s):=by rw[<-ap];simp[go_sem]
 have k3:W1.cell? ⟨w.heap.size,3,none⟩=some (.int .i64 ty):=by rw[<-ap];simp[go_sem]
 have k4:W1.cell? ⟨w.heap.size,4,none⟩=some (.int .i64 life):=by rw[<-ap];simp[go_sem]
 have k5:W1.cell? ⟨w.heap.size,5,none⟩=some (.slice A3 n3 c3):=by rw[<-ap];simp[go_sem]
 have k6:W1.cell? ⟨w.heap.size,6,none⟩=some (.slice A4 n4 c4):=by rw[<-ap];simp[go_sem]
 have aZ:=jq aD;have HN:=jq (And.intro bU (And.intro cV (And.intro eY fI)));clear aD bU cV eY fI;go_enter func110,ntmps110;go_wp2_with fail;refine (auX _ hs _ (HH.out.later o6 yx aZ.out)).mono ?_;rintro e w2 ⟨rfl,ae⟩;replace k0:=aBX ae k0;replace k1:=aBX ae k1;replace k2:=aBX ae k2;replace k3:=aBX ae k3;replace k4:=aBX ae k4;replace k5:=aBX ae k5;replace k6:=aBX ae k6;have aK:=ae.size;have ai:=aBY aZ ae;clear ae ap;obtain⟨b1,aB⟩:=aCQ (Np.yes (Np.VHosts hs));rw[aB];have sS:=jq aB;clear aB
 cases b1 with
 | false=>
  have HX:Hid (r=false):=jq (by rw[<-HR.out];exact Np.aC λq=>by have:=Np.ba q.1.1;rw[sS.out] at this;cases this);go_wp2_with fail;go_ret;exact⟨ag HX.out.symm,ai.out⟩
 | true=>
  go_wp2_with fail;refine (auJ _ n1 ⟨_,_,rfl⟩ _ l _ ty life _ _ s rfl hl hz _ ((fV.out.keep ai.out).more ai.out.size) (HD.out.later Ey Js ai.out)).mono ?_;rintro e w3 ⟨rfl,al⟩;replace k0:=aBX al k0;replace k1:=aBX al k1;replace k2:=aBX al k2;replace k3:=aBX al k3;replace k4:=aBX al k4;replace k5:=aBX al k5;replace k6:=aBX al k6;have eF:=al.size;have am:=aBY ai al;clear al;obtain⟨b2,ae⟩:=aCQ (Np.yes (Np.pw n1 l));rw[ae];have zF:=jq ae;clear ae
  cases b2 with
  | false=>
   have HX:Hid (r=false):=jq (by rw[<-HR.out];exact Np.aC λq=>by have:=Np.ba q.1.2;rw[zF.out] at this;cases this);go_wp2_with fail;go_ret;exact⟨ag HX.out.symm,am.out⟩
  | true=>
   go_wp2_with fail;refine (auY s an ty life _ d _ hints _ ((fV.out.keep am.out).more am.out.size) (qd.out.later cM dt am.out) (qj.out.later qV yy am.out)).mono ?_;rintro e w4 ⟨rfl,aw⟩;have aP:=jq (am.out.trans (aw.mono am.out.size));clear aw;have HX:Hid (Np.yes (Np.VRoot ⟨s.data.toList,ty,life,d⟩ hints)=r):=jq (by
    rw[<-HR.out];exact Np.sw ⟨λq=>⟨⟨Np.fj.1 sS.out,Np.fj.1 zF.out⟩,q⟩,λq=>q.2⟩)
   rw[HX.out];go_wp2_with fail;go_ret;exact⟨rfl,aP.out⟩
end
section
open Go.RowKit Go.MapKept Go.Shelf Go.Sort
theorem WD(f u f' u':Int)(w:World) :
 Calls prog 122 #[.agg #[.int .i64 f,.int .i64 u],.agg #[.int .i64 f',.int .i64 u']] w λe w'=>e = .returned (.int .i64 (Np.cO f f'))/\∃ q os,w'=grow (w.drewN q) os:=by
 go_enter func122,ntmps122;go_wp2_with (go_at_call 123;refine (zY _ _ _).mono ?_;rintro e w' ⟨rfl,rfl⟩);go_ret;exact⟨rfl,0,_,by rw[alloc_eq_grow,alloc_eq_grow,grow_grow];rfl⟩
def Np.sT(h:Np.Hist):Prop:=(1<=h.stop/\h.stop<=10000000)/\(0<=h.drift/\h.drift<=1000)
theorem avJ{h:Np.Hist} : Np.VHist h↔((Np.sT h/\Np.VWorld ⟨h.hosts,[],h.anchor,h.hints⟩)/\∀ c∈h.copies,Np.CopyOk h c)/\h.copies.Pairwise λc d=>¬ Np.jX c d:=
 ⟨λv=>⟨⟨⟨⟨v.stop,v.drift⟩,v.hosts,v.root,λp hp=>(by cases hp),List.Pairwise.nil⟩,v.each⟩,v.apart⟩,λv=>⟨v.1.1.1.1,v.1.1.1.2,v.1.1.2.hosts,v.1.1.2.root,v.1.2,v.2⟩⟩
structure q9(W:World)(X:Nat)(hv cv:Value)(stop:Int):Prop where
 c0:W.cell? ⟨X,0,none⟩=some hv
 c1:W.cell? ⟨X,1,none⟩=some cv
 c8:W.cell? ⟨X,8,none⟩=some (.int .i64 stop)
 lt:X<W.heap.size
theorem q9.keep{W W':World}{X B:Nat}{hv cv:Value}{stop:Int}(h:q9 W X hv cv stop)(hb:Below B W W')(hB:X<B):q9 W' X hv cv stop:=⟨(hb.cell hB).trans h.c0,(hb.cell hB).trans h.c1,(hb.cell hB).trans h.c8,lQ h.lt hb.size⟩
theorem q9.turned{W W':World}{X r:Nat}{hv cv:Value}{stop:Int}(h:q9 W X hv cv stop)(ht:Turned r W W')(hr:X≠r):q9 W' X hv cv stop:=⟨(ht.cell hr).trans h.c0,(ht.cell hr).trans h.c1,(ht.cell hr).trans h.c8,by rw[ht.size];exact h.lt⟩
theorem Vl{xs xs6:List fB}{l:List Np.Copy}{c:Np.Copy}{j:Nat}{g:List Np.Span}{v v':Value}(h:Np.GrpI (xs.map λx=>(x.1,x.2.1)) l)(hc:(xs6=xs/\xs[j]?=some (Np.gi c,g,v))\/(Np.gi c∉xs.map (·.1)/\xs6=xs ++ [(Np.gi c,[],.slice none 0 0)]/\j=xs.length/\g = []/\v = .slice none 0 0)):Np.GrpI ((xs6.set j (Np.gi c,g ++ [Np.jW c],v')).map λx=>(x.1,x.2.1)) (l ++ [c]):=by
 rcases hc with ⟨rfl,hj⟩ | ⟨hn,rfl,rfl,rfl,rfl⟩
 ·rw[List.map_set];exact h.old (by rw[List.getElem?_map,hj];rfl)
 ·rw[List.set_append_right _ _ (bQ _),Nat.sub_self,List.set_cons_zero,List.map_append];exact h.new (by rw[List.map_map];exact hn)
theorem Ny(hv:Value)(hs:List Np.Host)(cv:Value)(l:List Np.Copy)(s:ByteArray)(an:s.size<=140737488355328)(ty life:Int)(dv:Value)(d:List Np.Datum)(dV:Value)(hints:List Int)(drift stop:Int)(hl:l.length<=500)(hz:∀ p∈l,p.zone.sets.length<=20000)(w:World)(hR:iR w w.heap.size)
 (hh:SlR kf 3 w w.heap.size hv hs) (hd:SlR ma 5 w w.heap.size cv l) (hdd:SlR bK 3 w w.heap.size dv d) (pF:SlR kP 1 w w.heap.size dV hints) :
 Calls prog 56 #[.agg #[hv,cv,.string s,.int .i64 ty,.int .i64 life,dv,dV,.int .i64 drift,.int .i64 stop]] w λe w'=>e = .returned (.bool (Np.yes (Np.VHist ⟨hs,l,⟨s.data.toList,ty,life,d⟩,hints,drift,stop⟩)))/\Below w.heap.size w w':=by
 obtain⟨r,hr⟩:=aCQ (Np.yes (Np.VHist ⟨hs,l,⟨s.data.toList,ty,life,d⟩,hints,drift,stop⟩));obtain⟨iG,rH⟩:∃ h:Np.Hist,(⟨hs,l,⟨s.data.toList,ty,life,d⟩,hints,drift,stop⟩:Np.Hist)=h:=⟨_,rfl⟩;rw[hr];have HR:Hid (Np.yes (((Np.sT iG/\Np.VWorld ⟨hs,[],⟨s.data.toList,ty,life,d⟩,hints⟩)/\∀ c∈l,Np.CopyOk iG c)/\l.Pairwise λc d=>¬ Np.jX c d)=r):=jq (by rw[<-hr,<-rH];exact (Np.sw (avJ (h:=⟨hs,l,⟨s.data.toList,ty,life,d⟩,hints,drift,stop⟩))).symm);have jw:Hid (Np.sT iG↔(1<=stop/\stop<=10000000)/\(0<=drift/\drift<=1000)):=jq (by rw[<-rH];exact Iff.rfl);have jb:Hid (∀ c,Np.CopyOk iG c↔(0<=c.host/\c.host<hs.length)/\(0<=c.frm/\c.frm<c.til/\c.til<=stop)/\Np.VZone c.zone):=jq (λc=>by rw[<-rH];exact⟨λh=>⟨h.host,h.times,h.zone⟩,λh=>⟨h.1,h.2.1,h.2.2⟩⟩);have HH:=jq hh;have HD:=jq hd;have qd:=jq hdd;have qj:=jq pF;have fV:=jq hR;have HZ:=jq hz;obtain⟨A1,c1,rfl,_,_⟩:=ak hh;obtain⟨A2,c2,rfl,_,_⟩:=ak hd;obtain⟨A3,c3,rfl,_,_⟩:=ak hdd;obtain⟨A4,c4,rfl,_,_⟩:=ak pF;clear hr rH hd hR hh hdd pF hz;obtain⟨n1,bU⟩:=aCQ hs.length;obtain⟨n2,cV⟩:=aCQ l.length;obtain⟨n3,eY⟩:=aCQ d.length;obtain⟨n4,fI⟩:=aCQ hints.length;rw[bU] at HH jb |-;rw[cV] at HD hl |-;rw[eY] at qd |-;rw[fI] at qj |-;have HN:=jq (And.intro bU (And.intro cV (And.intro eY fI)));clear bU cV eY fI;obtain⟨W1,ap⟩:=aCQ (w.alloc (.cells #[.slice A1 n1 c1,.slice A2 n2 c2,.string s,.int .i64 ty,.int .i64 life,.slice A3 n3 c3,.slice A4 n4 c4,.int .i64 drift,.int .i64 stop] 29));have aD:Below w.heap.size w W1:=by rw[<-ap];exact (vQ _ _).alloc (bQ _) _
 have jR:W1.heap.size=w.heap.size+1:=by rw[<-ap];simp
 obtain⟨X,hX⟩:=aCQ w.heap.size;have kM:=jq hX;have k0:W1.cell? ⟨X,0,none⟩=some (.slice A1 n1 c1):=by rw[<-ap,<-hX];simp[go_sem]
 have k1:W1.cell? ⟨X,1,none⟩=some (.slice A2 n2 c2):=by rw[<-ap,<-hX];simp[go_sem]
 have k2:W1.cell? ⟨X,2,none⟩=some (.string s):=by rw[<-ap,<-hX];simp[go_sem]
 have k3:W1.cell? ⟨X,3,none⟩=some (.int .i64 ty):=by rw[<-ap,<-hX];simp[go_sem]
 have k4:W1.cell? ⟨X,4,none⟩=some (.int .i64 life):=by rw[<-ap,<-hX];simp[go_sem]
 have k5:W1.cell? ⟨X,5,none⟩=some (.slice A3 n3 c3):=by rw[<-ap,<-hX];simp[go_sem]
 have k6:W1.cell? ⟨X,6,none⟩=some (.slice A4 n4 c4):=by rw[<-ap,<-hX];simp[go_sem]
 have k7:W1.cell? ⟨X,7,none⟩=some (.int .i64 drift):=by rw[<-ap,<-hX];simp[go_sem]
 have k8:W1.cell? ⟨X,8,none⟩=some (.int .i64 stop):=by rw[<-ap,<-hX];simp[go_sem]
 rw[hX] at aD jR HH HD qd qj fV;rw[hX];have aZ:=jq aD;clear aD;go_enter func56,ntmps56;by_cases g1:stop<1
 ·have dg1:decide (stop<1)=true:=uQ g1;have HX:Hid (r=false):=jq (by rw[<-HR.out];exact Np.aC λq=>by have:=jw.out.1 q.1.1.1;omega);clear g1;go_wp2_with fail;go_ret;exact⟨ag HX.out.symm,aZ.out⟩
 have dg1:decide (stop<1)=false:=tQ g1;by_cases g2:10000000<stop
 ·have dg2:decide (10000000<stop)=true:=uQ g2;have HX:Hid (r=false):=jq (by rw[<-HR.out];exact Np.aC λq=>by have:=jw.out.1 q.1.1.1;omega);clear g2;go_wp2_with fail;go_ret;exact⟨ag HX.out.symm,aZ.out⟩
 have dg2:decide (10000000<stop)=false:=tQ g2;by_cases g3:drift<0
 ·have dg3:decide (drift<0)=true:=uQ g3;have HX:Hid (r=false):=jq (by rw[<-HR.out];exact Np.aC λq=>by have:=jw.out.1 q.1.1.1;omega);clear g3;go_wp2_with fail;go_ret;exact⟨ag HX.out.symm,aZ.out⟩
 have dg3:decide (drift<0)=false:=tQ g3;by_cases g4:1000<drift
 ·have dg4:decide (1000<drift)=true:=uQ g4;have HX:Hid (r=false):=jq (by rw[<-HR.out];exact Np.aC λq=>by have:=jw.out.1 q.1.1.1;omega);clear g4;go_wp2_with fail;go_ret;exact⟨ag HX.out.symm,aZ.out⟩
 have dg4:decide (1000<drift)=false:=tQ g4;have d5:decide (4000<(n2:Int))=false:=aDJ;have E9:Hid (Np.sT iG):=jq (jw.out.2 (by omega));clear g1 g2 g3 g4;go_wp2_with fail;refine (axQ _ hs _ [] s an ty life _ d _ hints (by simp) (by simp) _ ((fV.out.keep aZ.out).more (by omega)) ((HH.out.keep o6 aZ.out).more yx (by omega)) ⟨none,0,rfl,by simp,by simp,λi x hx=>by simp at hx⟩ ((qd.out.keep cM aZ.out).more dt (by omega)) ((qj.out.keep qV aZ.out).more yy (by omega))).mono ?_;rintro e w2 ⟨rfl,ae⟩;have aK:=ae.size;have Ce:Hid (q9 w2 X (.slice A1 n1 c1) (.slice A2 n2 c2) stop):=jq (q9.keep ⟨k0,k1,k8,by omega⟩ ae (by omega));have ai:=aBY aZ ae;clear ae ap k0 k1 k2 k3 k4 k5 k6 k7 k8;have k0:=Ce.out.c0;have k1:=Ce.out.c1;have MT:=Ce.out.lt;obtain⟨b1,aB⟩:=aCQ (Np.yes (Np.VWorld ⟨hs,[],⟨s.data.toList,ty,life,d⟩,hints⟩));rw[aB];have sS:=jq aB;clear aB;have lN:∀ (w:World),(Instr.makeMap 184 none).run prog w = .ok (.map (some w.heap.size)) (w.alloc (.map #[] 0)):=λw=>by
  simp[Instr.makeMap,Result.andThen]
 cases b1 with
 | false=>
  have HX:Hid (r=false):=jq (by rw[<-HR.out];exact Np.aC λq=>by have:=Np.ba q.1.1.2;rw[sS.out] at this;cases this);go_wp2_with fail;go_ret;exact⟨ag HX.out.symm,ai.out⟩
 | true=>
  go_wp2_with fail;obtain⟨wm,BJ⟩:=aCQ (w2.alloc (.map #[] 0));obtain⟨X1,oI⟩:=aCQ w2.heap.size;have uv:Hid (MapX (X1+1) X1 [] wm):=jq (by rw[<-BJ,<-oI];exact MapX.made _ _);have hzm:wm.heap.size=X1+1:=by rw[<-BJ,<-oI];simp
  have ta:Below X1 w2 wm:=by rw[<-BJ,<-oI];exact (vQ _ _).alloc (bQ _) _
  have Hb:X<X1:=by omega
  have Ff:Hid (q9 wm X (.slice A1 n1 c1) (.slice A2 n2 c2) stop):=jq (Ce.out.keep ta Hb);have Fh:=aBY ai ta;rw[BJ,oI];clear BJ oI ta k0 k1;have dh:Hid (l.length=n2):=jq HN.out.2.1;go_loopw [47] (λi wr=>∃ (k:Nat) (xs:List fB),k<=n2/\i = .int .i64 k/\X1<wr.heap.size/\Hid (Below X1 wm wr)/\Hid (MapX (X1+1) X1 xs wr)/\Hid (Np.GrpI (xs.map λx=>(x.1,x.2.1)) (l.take k))/\Hid (∀ c∈l.take k,Np.CopyOk iG c)) (λi _=>n2 - (intOf i).toNat)
  case atStart=>exact⟨0,[],jQ _,rfl,by omega,jq (vQ _ _),uv,jq Np.GrpI.nil,jq (by simp)⟩
  case round=>
   obtain⟨k,xs,hk,rfl,dJ,bC,HM,HG,bl⟩:=hrel;have HB:=aBY Fh bC.out;have gE:=jq (Ff.out.keep bC.out Hb);have k0:=gE.out.c0;have k8:=gE.out.c8;by_cases aa:k<n2
   ·obtain⟨x,ac⟩:∃ x,l[k]?=some x:=⟨_,aQ (by rw[dh.out];exact aa)⟩;obtain⟨b,o,sn,vz,rfl,bR,ar,cZ,gd,f0,f1,f2,f3,f4⟩:=uP (HD.out.keep oY HB.out) ac;obtain⟨Az,cz,rfl,_,_⟩:=ak gd;obtain⟨nz,jN⟩:=aCQ x.zone.sets.length;rw[jN] at f4;have HT:Hid (l.take (k+1)=l.take k ++ [x]):=jq (by
     obtain⟨hl,he⟩:=cQ.1 ac;rw[fQ hl,he])
    have HF:Hid (¬ Np.CopyOk iG x->r=false):=jq (λh=>by rw[<-HR.out];exact Np.aC λq=>h (q.1.2 x (gQ ac)));have zH:Hid (x.zone.sets.length<=20000):=jq (HZ.out x (gQ ac));have aS:=jq ar;have iN:Hid (SlR bP 5 wr wr.heap.size (.slice Az nz cz) x.zone.sets):=jq (by rw[<-jN];exact gd.more dH (by omega));obtain⟨w3,eE⟩:=aCQ (wr.alloc (.cells #[.int .i64 x.host,.int .i64 x.frm,.int .i64 x.til,.string sn,.slice Az nz cz] 46));have eF:w3.heap.size=wr.heap.size+1:=by rw[<-eE];simp
    have al:Below wr.heap.size wr w3:=by rw[<-eE];exact (vQ _ _).alloc (bQ _) _
    have p0:w3.cell? ⟨wr.heap.size,0,none⟩=some (.int .i64 x.host):=by rw[<-eE];simp[go_sem]
    have p1:w3.cell? ⟨wr.heap.size,1,none⟩=some (.int .i64 x.frm):=by rw[<-eE];simp[go_sem]
    have p2:w3.cell? ⟨wr.heap.size,2,none⟩=some (.int .i64 x.til):=by rw[<-eE];simp[go_sem]
    have p3:w3.cell? ⟨wr.heap.size,3,none⟩=some (.string sn):=by rw[<-eE];simp[go_sem]
    have p4:w3.cell? ⟨wr.heap.size,4,none⟩=some (.slice Az nz cz):=by rw[<-eE];simp[go_sem]
    have q0:w3.cell? ⟨X,0,none⟩=some (.slice A1 n1 c1):=aBX al k0;have q8:w3.cell? ⟨X,8,none⟩=some (.int .i64 stop):=aBX al k8;have am:=aBY HB al;have Fi:=aBY bC al;have oa:=jq (HM.out.keep al);have kJ:Hid (SlR bP 5 w3 w3.heap.size (.slice Az nz cz) x.zone.sets):=jq ((iN.out.keep bH al).more dH al.size);clear ac ar gd jN al iN;by_cases g1:x.host<0
    ·have dg1:decide (x.host<0)=true:=uQ g1;have HX:Hid (r=false):=jq (HF.out λh=>by have:=(jb.out x).1 h;omega);clear g1;go_wp2_with fail;go_ret;exact⟨ag HX.out.symm,am.out⟩
    have dg1:decide (x.host<0)=false:=tQ g1;by_cases g2:(n1:Int)<=x.host
    ·have dg2:decide ((n1:Int)<=x.host)=true:=uQ g2;have HX:Hid (r=false):=jq (HF.out λh=>by have:=(jb.out x).1 h;omega);clear g2;go_wp2_with fail;go_ret;exact⟨ag HX.out.symm,am.out⟩
    have dg2:decide ((n1:Int)<=x.host)=false:=tQ g2;by_cases g3:x.frm<0
    ·have dg3:decide (x.frm<0)=true:=uQ g3;have HX:Hid (r=false):=jq (HF.out λh=>by have:=(jb.out x).1 h;omega);clear g3;go_wp2_with fail;go_ret;exact⟨ag HX.out.symm,am.out⟩
    have dg3:decide (x.frm<0)=false:=tQ g3;by_cases g4:x.til<=x.frm
    ·have dg4:decide (x.til<=x.frm)=true:=uQ g4;have HX:Hid (r=false):=jq (HF.out λh=>by have:=(jb.out x).1 h;omega);clear g4;go_wp2_with fail;go_ret;exact⟨ag HX.out.symm,am.out⟩
    have dg4:decide (x.til<=x.frm)=false:=tQ g4;by_cases g5:stop<x.til
    ·have dg5:decide (stop<x.til)=true:=uQ g5;have HX:Hid (r=false):=jq (HF.out λh=>by have:=(jb.out x).1 h;omega);clear g5;go_wp2_with fail;go_ret;exact⟨ag HX.out.symm,am.out⟩
    have dg5:decide (stop<x.til)=false:=tQ g5;have yZ:Hid ((0<=x.host/\x.host<n1)/\(0<=x.frm/\x.frm<x.til/\x.til<=stop)):=jq (by omega);clear g1 g2 g3 g4 g5;go_wp2_with fail;refine (Q4 sn cZ _ x.zone.sets zH.out w3 ((fV.out.keep am.out).more (by omega)) kJ.out).mono ?_;rintro e w4 ⟨rfl,aw⟩;have fd:w3.heap.size<=w4.heap.size:=aw.size;have s0:w4.cell? ⟨wr.heap.size,0,none⟩=some (.int .i64 x.host):=aBX aw p0;have s1:w4.cell? ⟨wr.heap.size,1,none⟩=some (.int .i64 x.frm):=aBX aw p1;have s2:w4.cell? ⟨wr.heap.size,2,none⟩=some (.int .i64 x.til):=aBX aw p2;have s3:w4.cell? ⟨wr.heap.size,3,none⟩=some (.string sn):=aBX aw p3;have s4:w4.cell? ⟨wr.heap.size,4,none⟩=some (.slice Az nz cz):=aBX aw p4;have aP:=aBY am aw;have Fj:=aBY Fi aw;have xm:=jq (oa.out.keep aw);clear aw p0 p1 p2 p3 p4 eE f0 f1 f2 f3 f4 q0 q8 k0 k8 oa;obtain⟨rz,eM⟩:=aCQ (Np.yes (Np.VZone ⟨sn.data.toList,x.zone.sets⟩));rw[eM];have ix:=jq eM;clear eM
    cases rz with
    | false=>
     have HX:Hid (r=false):=jq (HF.out λh=>by
      have h1:=((jb.out x).1 h).2.2;have h2:x.zone=⟨sn.data.toList,x.zone.sets⟩:=by rw[aS.out]
      rw[h2] at h1;have h3:=Np.ba h1;rw[ix.out] at h3
      cases h3)
     go_wp2_with fail;go_ret;exact⟨ag HX.out.symm,aP.out⟩
    | true=>
     have jc:Hid (Np.CopyOk iG x):=jq ((jb.out x).2 ⟨yZ.out.1,yZ.out.2,by
      have h2:x.zone=⟨sn.data.toList,x.zone.sets⟩:=by rw[aS.out]
      rw[h2];exact Np.fj.1 ix.out⟩)
     have FR:Hid (∀ c∈l.take (k+1),Np.CopyOk iG c):=jq (λc hc=>by
      rw[HT.out] at hc;rcases List.mem_append.1 hc with hc | hc
      ·exact bl.out c hc
      ·rw[List.mem_singleton] at hc;subst hc;exact jc.out)
     have iv:Hid (Np.gi x=(x.host,sn.data.toList)):=jq (by unfold Np.gi;rw[aS.out]);obtain⟨w5,aW⟩:=aCQ (w4.alloc (.cells #[.int .i64 x.host,.string sn] 186));obtain⟨w6,cj⟩:=aCQ (w5.alloc (.cells #[.int .i64 x.frm,.int .i64 x.til] 110));have iJ:w5.heap.size=w4.heap.size+1:=by rw[<-aW];simp
     have iq:w6.heap.size=w5.heap.size+1:=by rw[<-cj];simp
     have aJ:Below w4.heap.size w4 w5:=by rw[<-aW];exact (vQ _ _).alloc (bQ _) _
     have aR:Below w4.heap.size w4 w6:=by rw[<-cj];exact aJ.alloc (by omega) _
     have t0:w5.cell? ⟨w4.heap.size,0,none⟩=some (.int .i64 x.host):=by rw[<-aW];simp[go_sem]
     have t1:w5.cell? ⟨w4.heap.size,1,none⟩=some (.string sn):=by rw[<-aW];simp[go_sem]
     have u1:w5.cell? ⟨wr.heap.size,1,none⟩=some (.int .i64 x.frm):=aBX aJ s1;have u2:w5.cell? ⟨wr.heap.size,2,none⟩=some (.int .i64 x.til):=aBX aJ s2;have y0:w6.cell? ⟨w5.heap.size,0,none⟩=some (.int .i64 x.frm):=by rw[<-cj];simp[go_sem]
     have y1:w6.cell? ⟨w5.heap.size,1,none⟩=some (.int .i64 x.til):=by rw[<-cj];simp[go_sem]
     have zg:=jq (xm.out.keep aR);have du:=aBY aP aR;have Rz:=aBY Fj aR;have gF:Hid (∀ (j:Nat) (g:List Np.Span) (v:Value),xs[j]?=some ((x.host,sn.data.toList),g,v)->g.length<=500):=jq (λj g v hj=>by
      have h1:=HG.out.each ((x.host,sn.data.toList),g) (List.mem_map.2 ⟨_,gQ hj,rfl⟩);simp only at h1;rw[h1];unfold Np.fM;rw[List.length_map];refine yQ (List.length_filter_le _ _) ?_;rw[List.length_take,dh.out];omega)
     clear aJ aR;go_wp2_with (first
      | (refine azZ _ rfl _ _ rfl (X1+1) X1 xs rfl zg.out (Nat.lt_succ_self _) (x.host,sn.data.toList) rfl ?_;intro w7 j7 g7 v7 xs7 Hq Nz NM BD;have eU:=jq Hq;have Fz:=jq Nz;have FF:=jq NM;have xw:=jq BD;have y0':w7.cell? ⟨w5.heap.size,0,none⟩=some (.int .i64 x.frm):=(BD.cell (by dsimp only;omega)).trans y0;have y1':w7.cell? ⟨w5.heap.size,1,none⟩=some (.int .i64 x.til):=(BD.cell (by dsimp only;omega)).trans y1;have nN:w7.heap.size=w6.heap.size:=BD.size;have Co:Hid (g7.length<=100000):=jq (by rcases Hq with ⟨_,hj⟩ | ⟨_,_,_,rfl,_⟩;exact yQ (gF.out _ _ _ hj) (by omega);simp);clear Hq Nz NM BD)
      | (at_builtin;refine ayK _ rfl _ _ rfl (X1+1) v7 g7 rfl (FF.out.row _ (gQ Fz.out)) w5.heap.size x.frm x.til (by simp[go_sem]) y0' y1' Co.out (by omega) ?_;intro v8 w8 bJ bw MW;have H8:=jq (And.intro bJ (And.intro bw MW));have qL:w7.heap.size<=w8.heap.size:=bw.size;clear bJ bw MW)
      | (refine azQ _ w7 rfl _ _ _ rfl (X1+1) X1 xs7 FF.out (Nat.lt_succ_self _) j7 (x.host,sn.data.toList) g7 (g7 ++ [⟨x.frm,x.til⟩]) v7 v8 Fz.out H8.out.2.1 H8.out.1 H8.out.2.2 rfl rfl rfl ?_;intro w9 NN Oh;have H9:=jq (And.intro NN Oh);clear NN Oh))
     go_roundw
     case rel=>
      have e9:Below X1 wm w9:=((Rz.out.trans (xw.out.below (bQ _))).grown H8.out.2.1 (by omega) (λq hq=>by have:=(World.ownsRow.lt (FF.out.row _ (gQ Fz.out)) q hq).1;omega)).trans (H9.out.2.below (bQ _));refine⟨k+1,_,by omega,by go_num,by rw[H9.out.2.size];omega,jq e9,jq H9.out.1,jq ?_,FR⟩;rw[HT.out];have hc:=eU.out;rw[<-iv.out] at hc
      have:=Vl (v':=v8) HG.out hc
      rw[iv.out] at this;exact this
     case measure=>simp[intOf] <;> omega
   ·have bZ:Hid (l.take k=l):=jq (kQ (by rw[dh.out];omega));have pm:Hid (Np.GrpI (xs.map λx=>(x.1,x.2.1)) l):=jq (by have:=HG.out;rwa [bZ.out] at this);have zh:Hid (∀ c∈l,Np.CopyOk iG c):=jq (by have:=bl.out;rwa [bZ.out] at this);have k1:=gE.out.c1;clear HG bl bZ k0 k8;go_wp2_with (at_range;refine azK _ rfl _ rfl (X1+1) X1 xs rfl HM.out ?_;intro w10 N6 M3 Oy;have K0:=jq N6;have E2:=aBY bC M3;clear N6 M3);go_frame;obtain⟨I,hI⟩:=aCQ wr.heap.size;rw[hI] at K0 Oy;rw[hI];have aEZ:X1<I:=by omega
    have Ky:Hid (∀ x∈xs,x.2.1.length<=500/\∀ t∈x.2.1,t.frm<t.til):=jq (λx hx=>by
     have h1:=pm.out.each (x.1,x.2.1) (List.mem_map.2 ⟨x,hx,rfl⟩);simp only at h1;rw[h1];refine⟨?_,λt ht=>?_⟩
     ·unfold Np.fM;rw[List.length_map];refine yQ (List.length_filter_le _ _) ?_;rw[dh.out];omega
     ·obtain⟨c,hc,rfl⟩:=List.mem_map.1 ht;exact (((jb.out c).1 (zh.out c (List.mem_filter.1 hc).1)).2.1).2.1)
    have uf:Hid ((l.Pairwise λc d=>¬ Np.jX c d)↔∀ x∈xs,x.2.1.Pairwise λa b=>¬ Np.ox a b):=jq (pm.out.ok.trans ⟨λh x hx=>h (x.1,x.2.1) (List.mem_map.2 ⟨x,hx,rfl⟩),λh y hy=>by
     obtain⟨x,hx,rfl⟩:=List.mem_map.1 hy;exact h x hx⟩)
    have aBK:=Ff;clear gE HM bC HB hI dJ k1;go_loopw [] (λwq=>∃ (seen:Array Nat) (xs':List fB),I<wq.heap.size/\Hid (Below X1 wm wq)/\Hid (RangeX (X1+1) X1 I xs' seen wq)/\Hid (xs'.length=xs.length/\∀ (j:Nat) (x':fB),xs'[j]?=some x'->∃ x:fB,xs[j]?=some x/\x'.2.1.Perm x.2.1)/\Hid (∀ (j:Nat) (x:fB),seen.contains j=true->xs[j]?=some x->x.2.1.Pairwise λa b=>¬ Np.ox a b)) (λwq=>wq.rangeLeft X1 I)
    case atStart=>exact⟨#[],xs,by omega,E2,K0,jq ⟨rfl,λj x hx=>⟨x,hx,List.Perm.refl _⟩⟩,jq (by simp)⟩
    case round=>
     obtain⟨seen,xs',G0,ra,SE,CA,KX⟩:=hrel;have Rw:=jq (Ff.out.keep ra.out Hb);have k1:=Rw.out.c1;go_wp2_with (at_next;refine azJ _ rfl _ rfl (X1+1) X1 I xs' seen rfl SE.out (λlL=>?_) (λj p g v w11 hj ID DZ Io hen=>?_))
     ·have kH:Hid (l.Pairwise λc d=>¬ Np.jX c d):=jq (uf.out.2 λx hx=>by
       obtain⟨j,hj,rfl⟩:=nQ.1 hx;exact KX.out j _ (lL j (by rw[CA.out.1];exact hj)) (aQ hj))
      have jZ:=aBY Fh ra.out;refine (QD _ l (by rw[dh.out];omega) _ ((HD.out.keep oY jZ.out).more BU (by omega))).mono ?_;rintro e w13 ⟨v13,rfl,Bo,AJ⟩;obtain⟨A13,c13,rfl⟩:=cG.form Bo;have qZ:=aBY jZ AJ;have Il:(Np.dg (l.map (·.zone.apex))).length<=500:=by
       have:=Np.ua (l.map (·.zone.apex))
       rw[List.length_map,dh.out] at this;omega
      obtain⟨m13,Bj⟩:=aCQ ((Np.dg (l.map (·.zone.apex))).length);rw[Bj] at Il |-;have d13:decide ((m13:Int)<=500)=true:=aDX;clear Bo AJ Bj;go_wp2_with fail;go_ret;exact⟨ag (by rw[<-HR.out];exact (Np.ba ⟨⟨⟨E9.out,Np.fj.1 sS.out⟩,zh.out⟩,kH.out⟩).symm),qZ.out⟩
     ·obtain⟨xj,I0,Iz⟩:=CA.out.2 j _ hj;have hlg:g.length=xj.2.1.length:=Iz.length_eq;have WT:=(Ky.out xj (gQ I0)).1;have KU:=jq Iz;have CH:=jq I0;have HJ:=jq hj;have F4:=jq ID;have aCK:=jq DZ;have aCZ:=jq Io;have aDZ:I<w11.heap.size:=by rw[DZ.size];exact G0
      have E3:Hid (Below X1 wm w11):=jq (ra.out.trans (DZ.below (by omega)));refine (Qp _ WD (enters_of func122 (by kernel_rfl) rfl) (X1+1) v g w11 (F4.out.mapX.row _ (gQ (by exact HJ.out))) (by omega)).mono ?_;rintro e w12 ⟨rfl,ys,hp,tE,DP,x6⟩;have Sy:Hid (RangeX (X1+1) X1 I (xs'.set j (p,ys,v)) (seen.push j) w12):=jq (F4.out.changed (Nat.lt_succ_self _) HJ.out x6 DP);have xq:Hid (Np.Gv ys↔xj.2.1.Pairwise λa b=>¬ Np.ox a b):=jq (Np.aiX (hp.trans KU.out) tE (Ky.out xj (gQ CH.out)).2);have KW:Hid (ys.Perm xj.2.1):=jq (hp.trans KU.out);have lU:∀ q,v.ownBlock=some q->X1+1<=q:=λq hq=>(World.ownsRow.lt (F4.out.mapX.row _ (gQ (by exact HJ.out))) q hq).1;have mT:Hid (Below X1 wm w12):=jq (E3.out.grown x6 (by omega) (λq hq=>by have:=lU q hq;omega));have Xo:w12.rangeLeft X1 I<wr.rangeLeft X1 I:=by
       have e:w12.rangeLeft X1 I=w11.rangeLeft X1 I:=PA (x6.block X1 (by omega) (λe=>by have:=lU _ e.symm;omega)) (x6.block I (by omega) (λe=>by have:=ID.row _ (gQ hj);exact this e.symm));rw[e];exact Io
      have X9:I<w12.heap.size:=by have:=x6.size;omega
      have K3:Hid (SlR eJ 2 w12 w12.heap.size v ys):=jq (aN.slr DP (by have:=hp.length_eq;omega));have RN:Hid (¬ Np.Gv ys->r=false):=jq (λh=>by
       rw[<-HR.out];refine Np.aC λq=>h (xq.out.2 ?_);exact (uf.out.1 q.2) xj (gQ CH.out))
      have X5:ys.length<=500:=by rw[KW.out.length_eq];exact WT
      obtain⟨Av,cv,rfl⟩:=aN.form DP;obtain⟨wo,rfl⟩:=aCY wr;clear hp tE DP x6 ID DZ Io hen hj I0 Iz lU k1;obtain⟨ny,rM⟩:=aCQ ys.length;rw[rM] at X5 K3;rw[rM];have Cr:=jq rM;clear rM;go_wp2_with fail;go_loopw [9] (λi wi=>∃ q:Nat,1<=q/\(q<=ny\/q=1)/\i = .int .i64 q/\Hid (Below w12.heap.size w12 wi)/\Hid (∀ t (h:t+1<ys.length),t+1<q->ys[t].til<=ys[t+1].frm)) (λi _=>ny - (intOf i).toNat)
      case atStart=>exact⟨1,bQ _,.inr rfl,rfl,jq (vQ _ _),jq (λt h h2=>by omega)⟩
      case round=>
       obtain⟨q,DT,kr,rfl,cU,HQ⟩:=hrel;have tO:=cU.out.size;by_cases NH:q<ny
       ·obtain⟨m,hm⟩:∃ m,q=m+1:=⟨q - 1,by omega⟩;have rM:=Cr.out;have yd:m<ys.length:=by omega
        have N4:q<ys.length:=by omega
        obtain⟨a,ha⟩:∃ a,ys[m]?=some a:=⟨_,aQ yd⟩;obtain⟨b,hb⟩:∃ b,ys[q]?=some b:=⟨_,aQ N4⟩;have Ck:=K3.out.keep iu cU.out;obtain⟨bb,oo,rfl⟩:=BX (k:=m) Ck yd;obtain⟨bD,Hg⟩:=yC Ck ha;obtain⟨_,Hh⟩:=yC Ck hb;have a0:=Hg.c0;have a1:=Hg.c1;have b0:=Hh.c0;have b1:=Hh.c1;have bj:IntKind.i64.wrap ((q:Int) - 1)=(m:Int):=by rw[show (q:Int) - 1=m by omega];simp[IntKind.wrap,IntKind.bits,IntKind.signed];omega
        have i1:(0:Int)<=(q:Int):=by omega
        have i2:(q:Int)<(ny:Int):=by omega
        have i3:(0:Int)<=(m:Int):=by omega
        have i4:(m:Int)<(ny:Int):=by omega
        have i5:m<ny:=by omega
        have g8:Hid (b.frm<a.til->r=false):=jq (λaa=>RN.out λdO=>by
         have h1:=dO m (by omega);obtain⟨e1,e2⟩:=cQ.1 ha;obtain⟨e3,e4⟩:=cQ.1 hb;subst hm;rw[e2,e4] at h1;omega)
        have Km:Hid (¬ b.frm<a.til->∀ t (h:t+1<ys.length),t+1<q+1->ys[t].til<=ys[t+1].frm):=jq (λoM t h h2=>by
         by_cases e:t=m
         ·subst e;obtain⟨e1,e2⟩:=cQ.1 ha;obtain⟨e3,e4⟩:=cQ.1 hb;subst hm;rw[e2,e4];omega
         ·exact HQ.out t h (by omega))
        obtain⟨af,au⟩:=a;obtain⟨bf,bu⟩:=b;dsimp only at a0 a1 b0 b1 g8 Km;clear ha hb Ck Hg Hh hm rM yd N4 bD;by_cases rx:bf<au
        ·have dd:decide (bf<au)=true:=uQ rx;have HX:=jq (g8.out rx);have jZ:=jq (Fh.out.trans ((mT.out.trans (cU.out.aDQ)).aDQ));clear rx;go_wp2_with fail;go_quiet (fail);go_wp2_with fail;go_ret;exact⟨ag HX.out.symm,below_drewN jZ.out _⟩
        ·have dd:decide (bf<au)=false:=tQ rx;have HX:=jq (Km.out rx);clear rx;go_wp2_with fail;go_quiet (fail);go_wp2_with fail;go_roundw
         case rel=>exact⟨q+1,by omega,by omega,by go_num,jq (below_drewN cU.out _),HX⟩
         case measure=>simp[intOf] <;> omega
       ·have kH:Hid (xj.2.1.Pairwise λa b=>¬ Np.ox a b):=jq (xq.out.1 λt h=>HQ.out t h (by have:=Cr.out;omega));go_wp2_with fail;go_roundw
        case rel=>
         refine⟨seen.push j,_,by omega,aBY mT cU.out,jq (Sy.out.keep cU.out),jq ⟨by rw[List.length_set];exact CA.out.1,λj' x' hx'=>?_⟩,jq λj' x hs hx=>?_⟩
         ·rw[List.getElem?_set] at hx';split at hx'
          ·rename_i e;subst e;rw[Qb (cQ.1 HJ.out).1] at hx'
           cases hx'
           exact⟨xj,CH.out,KW.out⟩
          ·exact CA.out.2 j' x' hx'
         ·rw[Array.contains_push,Bool.or_eq_true] at hs;rcases hs with hs | hs
          ·exact KX.out j' x hs hx
          ·have e:j'=j:=by simpa using hs
           subst e
           have:=CH.out
           rw[this] at hx
           cases hx
           exact kH.out
        case measure=>
         have e:=PA (w:=w12) (w':=wr) (r:=X1) (I:=I) (cU.out.block _ (by omega)) (cU.out.block _ (by omega));rw[e];exact Xo
end
section
open Go.RowKit
theorem Py:∀ (o:List (List UInt8)) (a:List UInt8) (q:Nat) (hq:q<o.length),(∀ t (h:t<o.length),t<q->Np.aH o[t] a<0)->o[q]=a->Np.eP o a=o
 | [],_,_,hq,_,_=>by simp at hq
 | x::l,a,0,_,_,he=>by
   simp at he;subst he;rw[Np.eP,Qc (by rw[Np.fx.self];omega),Qb rfl]
 | x::l,a,q+1,hq,aa,he=>by
   have h0:=aa 0 (by simp) (by omega);rw[Np.eP,Qb (by simpa using h0),Py l a q (by simpa using hq) (λt h ht=>aa (t+1) (by simpa using h) (by omega)) (by simpa using he)]
theorem Jl:∀ (o:List (List UInt8)) (a:List UInt8) (q:Nat),q<=o.length->(∀ t (h:t<o.length),t<q->Np.aH o[t] a<0)->(∀ h:q<o.length,¬ Np.aH o[q] a<0/\o[q]≠a)->Np.eP o a=o.take q++a::o.drop q
 | [],a,q,_,_,_=>by simp[Np.eP]
 | x::l,a,0,_,_,hn=>by
   obtain⟨h1,h2⟩:=hn (by simp);simp at h1 h2;rw[Np.eP,Qc (by omega),Qc h2];rfl
 | x::l,a,q+1,hq,aa,hn=>by
   have h0:=aa 0 (by simp) (by omega);rw[Np.eP,Qb (by simpa using h0),Jl l a q (by simpa using hq) (λt h ht=>aa (t+1) (by simpa using h) (by omega)) (λh=>hn (by simpa using h))];rfl
theorem amK{o:List (List UInt8)}{x:List UInt8}{m:Nat}(hm:m<o.length):(o.take (m+1)++x::o.drop (m+1)).set (m+1) o[m]=o.take m++o[m]::o.drop m:=by
 have h1:(o.take (m+1)).length=m+1:=by rw[List.length_take];omega
 rw[List.set_append_right _ _ (by omega),h1,Nat.sub_self,List.set_cons_zero,fQ hm,List.append_assoc,sQ hm];rfl
theorem P7{o:List (List UInt8)}{x a:List UInt8}{q:Nat}(hq:q<=o.length):(o.take q++x::o.drop q).set q a=o.take q++a::o.drop q:=by
 have h1:(o.take q).length=q:=by rw[List.length_take];omega
 rw[List.set_append_right _ _ (by omega),h1,Nat.sub_self,List.set_cons_zero]
theorem amX{o:List (List UInt8)}{x:List UInt8}{j t:Nat}(ht:t<j)(hj:j<=o.length):(o.take j++x::o.drop j)[t]?=o[t]?:=by
 rw[List.getElem?_append_left (by rw[List.length_take];omega),List.getElem?_take_of_lt ht]
theorem P9{o:List (List UInt8)}{x:List UInt8}{j:Nat}(hj:j<=o.length):(o.take j++x::o.drop j)[j]?=some x:=by
 have h1:(o.take j).length=j:=by rw[List.length_take];omega
 rw[oQ (by omega),h1,Nat.sub_self];rfl
theorem P8{o:List (List UInt8)}{x:List UInt8}{j:Nat}(hj:j<=o.length):(o.take j++x::o.drop j).length=o.length+1:=by
 rw[List.length_append,List.length_cons,List.length_take,List.length_drop];omega
theorem Pw:∀ (o:List (List UInt8)) (a:List UInt8),(Np.eP o a).length<=o.length+1
 | [],a=>by simp[Np.eP]
 | x::l,a=>by
   rw[Np.eP];split
   ·have:=Pw l a;simp;omega
   ·split <;> simp
theorem GO:∀ (l o:List (List UInt8)),(l.foldl Np.eP o).length<=o.length+l.length
 | [],o=>by simp
 | a::l,o=>by
   have h1:=GO l (Np.eP o a);have h2:=Pw o a;rw[List.foldl_cons,List.length_cons];omega
theorem ME:∀ (l o:List (List UInt8)) (y:List UInt8),y∈l.foldl Np.eP o->y∈o\/y∈l
 | [],o,y,h=>.inl h
 | a::l,o,y,h=>by
   rcases ME l _ y h with h1 | h1
   ·have:∀ (o:List (List UInt8)),y∈Np.eP o a->y∈o\/y=a:=by
     intro o
     induction o with
     | nil=>intro h;rw[Np.eP,List.mem_singleton] at h;exact .inr h
     | cons x l ih=>
      intro h;rw[Np.eP] at h;split at h
      ·rcases List.mem_cons.1 h with h | h
       ·exact .inl (by rw[h];simp)
       ·rcases ih h with h | h
        ·exact .inl (mQ _ h)
        ·exact .inr h
      ·split at h
       ·exact .inl h
       ·rcases List.mem_cons.1 h with h | h
        ·exact .inr h
        ·exact .inl h
    rcases this o h1 with h2 | h2
    ·exact .inl h2
    ·exact .inr (by rw[h2];simp)
   ·exact .inr (mQ _ h1)
theorem PN{X:Nat}{w:World}{v:Value}{o:List (List UInt8)}{a:List UInt8}{N1:Nat}(h:cG X w v (o ++ [a]))(hN:o.length+1=N1):∃ g cap,v = .slice (some ⟨g,0,none⟩) N1 cap/\w.ownsRow X 9 1 (.slice (some ⟨g,0,none⟩) N1 cap) N1 ((o ++ [a]).map av):=by
 have e:(o ++ [a]).length=N1:=by simp[hN]
 have h1:w.ownsRow X 9 1 v N1 ((o ++ [a]).map av):=by rw[<-e];exact h
 rcases h1.2 with ⟨_,h2⟩ | ⟨g,cap,cur,rfl,_⟩
 ·omega
 ·exact⟨g,cap,rfl,h1⟩
theorem aeQ(v:Value)(l:List Np.Copy)(cg:l.length<=20000)(u7:∀ c∈l,c.zone.apex.length<=1000)(w:World)(h:SlR ma 5 w w.heap.size v l) :
 Calls prog 90 #[v] w λe w'=>∃ v',e = .returned v'/\cG w.heap.size w' v' (Np.apexes l)/\Below w.heap.size w w':=by
 rw[<-Np.GA];have HD:=jq h;have uf:=jq u7;obtain⟨A,c,rfl,bq,bN⟩:=ak h;clear h u7;obtain⟨X,hX⟩:=aCQ w.heap.size;rw[hX] at HD |-;have kM:=jq hX;clear hX;go_enter func90,ntmps90;go_wp2_with fail;go_loopw [3,4] (λvo i wr=>∃ (k:Nat) (o:List (List UInt8)),k<=l.length/\i = .int .i64 k/\X<=wr.heap.size/\Hid (Below X w wr)/\Hid (cG X wr vo o)/\Hid (((l.take k).map (·.zone.apex)).foldl Np.eP []=o)) (λ_ i _=>l.length - (intOf i).toNat)
 case atStart=>exact⟨0,[],jQ _,rfl,by rw[kM.out];exact bQ _,jq (vQ _ _),jq ⟨by simp,.inl ⟨rfl,rfl⟩⟩,jq rfl⟩
 case round=>
  obtain⟨k,o,hk,rfl,AF,HB,HO,HE⟩:=hrel;have l9:Hid (o.length<=20000):=jq (by have:=GO ((l.take k).map (·.zone.apex)) [];rw[HE.out] at this;simp at this;omega);have FU:Hid (∀ y∈o,y.length<=1000):=jq (λy hy=>by
   rw[<-HE.out] at hy;rcases ME _ _ _ hy with h1 | h1
   ·cases h1
   ·obtain⟨c,hc,rfl⟩:=List.mem_map.1 h1;exact uf.out c (List.mem_of_mem_take hc))
  by_cases aa:k<l.length
  ·obtain⟨x,ac⟩:∃ x,l[k]?=some x:=⟨_,aQ aa⟩;obtain⟨b,oo,sn,vz,rfl,bR,ar,cZ,gd,f0,f1,f2,f3,f4⟩:=uP (HD.out.keep oY HB.out) ac;have l4:Hid (((l.take (k+1)).map (·.zone.apex)).foldl Np.eP []=Np.eP o sn.data.toList):=jq (by
    obtain⟨hl,he⟩:=cQ.1 ac;rw[fQ hl,he,List.map_append,List.foldl_append,HE.out,ar];rfl)
   have Xt:sn.size<=1000:=by
    have h1:=uf.out x (gQ ac);rw[<-ar,aX] at h1;exact h1
   obtain⟨A0,c0,rfl⟩:=cG.form HO.out;obtain⟨N,hN⟩:=aCQ o.length;have HN:=jq hN;have iw:Hid (wr.ownsRow X 9 1 (.slice A0 N c0) N (o.map av)):=jq (by have:wr.ownsRow X 9 1 (.slice A0 o.length c0) o.length (o.map av):=HO.out;rwa [hN] at this);have aEQ:N<=20000:=by rw[<-hN];exact l9.out
   rw[hN] at HO;rw[hN];obtain⟨wo,rfl⟩:=aCY wr;clear ac ar gd f4 hN;go_wp2_with fail;go_loopw [6] (λp wi=>∃ q:Nat,q<=N/\p = .int .i64 q/\Hid (Below wo.heap.size wo wi)/\Hid (∀ t (h:t<o.length),t<q->Np.aH o[t] sn.data.toList<0)) (λp _=>N - (intOf p).toNat)
   case atStart=>exact⟨0,jQ _,rfl,jq (vQ _ _),jq (λt h ht=>by omega)⟩
   case round=>
    obtain⟨q,Xj,rfl,cU,HQ⟩:=hrel;have tO:=cU.out.size;have Cv:Hid (wr.ownsRow X 9 1 (.slice A0 N c0) N (o.map av)):=jq (gY iw.out (λg hg=>cU.out.block g (iw.out.lt g hg).2));by_cases hq:q<N
    ·obtain⟨g,rfl⟩:∃ g,A0=some ⟨g,0,none⟩:=by
      rcases Cv.out.2 with ⟨h1,h2⟩ | ⟨g,cap,cur,h1,_⟩
      ·omega
      ·simp only[Value.slice.injEq] at h1;exact⟨g,h1.1⟩
     have N5:q<o.length:=by rw[HN.out];exact hq
     obtain⟨y,hy⟩:∃ y,o[q]?=some y:=⟨_,aQ N5⟩;have r0:wr.cell? ⟨g,q,none⟩=some (av y):=by rw[Cv.out.cellAt q (by omega),List.getElem?_map,hy];rfl
     have X4:(⟨y.toArray⟩:ByteArray).size<=1000:=by
      have:=FU.out y (gQ hy)
      rw[<-aX];exact this
     have HY:Hid (o[q]'N5=y):=jq (cQ.1 hy).2;have ci:=Jo ⟨y.toArray⟩ sn X4 Xt;have e1:(⟨y.toArray⟩:ByteArray).data.toList=y:=rfl;rw[e1] at ci;have HC:=jq ci;clear ci e1 hy;by_cases fZ:Np.aH y sn.data.toList<0
     ·have hd:decide (Np.aH y sn.data.toList<0)=true:=uQ fZ;have qo:Hid (∀ t (h:t<o.length),t<q+1->Np.aH o[t] sn.data.toList<0):=jq (λt h ht=>by
       by_cases e:t=q
       ·subst e;rw[HY.out];exact fZ
       ·exact HQ.out t h (by omega))
      obtain⟨cz,vf⟩:=aCQ (Np.aH y sn.data.toList);rw[vf] at hd HC;clear fZ vf;unfold av at r0;go_wp2_with (go_at_call 164;refine (HC.out _).mono ?_;rintro e w5 ⟨rfl,aJ⟩;have cm:=jq (cU.out.trans (aJ.mono tO));clear aJ);go_roundw
      case rel=>exact⟨q+1,by omega,by go_num,jq cm.out,qo⟩
      case measure=>simp[intOf] <;> omega
     ·have hd:decide (Np.aH y sn.data.toList<0)=false:=tQ fZ;have Sa:=jq fZ;obtain⟨cz,vf⟩:=aCQ (Np.aH y sn.data.toList);rw[vf] at hd HC;clear fZ vf;unfold av at r0;by_cases hey:y=sn.data.toList
      ·have dM:(y == sn.toList)=true:=by rw[dQ,hey];simp
       have zl:Hid (Np.eP o sn.data.toList=o):=jq (Py o _ q N5 HQ.out (by rw[HY.out];exact hey));clear hey;go_wp2_with (go_at_call 164;refine (HC.out _).mono ?_;rintro e w5 ⟨rfl,aJ⟩;have r0':=(aJ.cell (p:=⟨g,q,none⟩) (by have:=(Cv.out.lt g rfl).2;dsimp only;omega)).trans r0;have cm:=jq (cU.out.trans (aJ.mono tO));clear aJ);go_roundw
       case rel=>exact⟨k+1,o,by omega,by go_num,by have:=cm.out.size;omega,jq (HB.out.trans (cm.out.mono AF)),jq (HO.out.keep cm.out),jq (by rw[l4.out,zl.out])⟩
       case measure=>simp[intOf] <;> omega
      ·have dM:(y == sn.toList)=false:=by rw[dQ];simpa using hey
       have zl:Hid (Np.eP o sn.data.toList=o.take q++sn.data.toList::o.drop q):=jq (Jl o _ q (by omega) HQ.out (λh=>by rw[HY.out];exact⟨Sa.out,hey⟩));clear hey;obtain⟨N1,nv⟩:=aCQ (o.length+1);have G7:=HN.out;have ah:IntKind.i64.wrap ((N1:Int) - 1)=(N:Int):=by rw[show (N1:Int) - 1=N by omega];simp[IntKind.wrap,IntKind.bits,IntKind.signed];omega
       have Vy:N+1=N1:=by omega
       have j9:=jq nv;clear nv G7;go_wp2_with (first | (go_at_call 164;refine (HC.out _).mono ?_;rintro e w5 ⟨rfl,aJ⟩;have r0':=(aJ.cell (p:=⟨g,q,none⟩) (by have:=(Cv.out.lt g rfl).2;dsimp only;omega)).trans r0;have cm:=jq (cU.out.trans (aJ.mono tO));have pp:Hid (cG X w5 _ o):=jq (HO.out.keep cm.out);have Hc:X<=w5.heap.size:=(by have:=cm.out.size;omega);clear aJ) | (at_builtin;refine yJ _ rfl _ _ rfl X _ o rfl (pp.out.alloc _) w5.heap.size sn.data.toList (by simp[go_sem]) (by simp[go_sem]) (by have:=l9.out;omega) (by simp;omega) ?_;intro v6 w6 nK aR;obtain⟨g6,cap6,rfl,Bw⟩:=PN nK j9.out;have F5:=jq Bw;have du:=jq ((((cm.out.mono AF).alloc Hc _).trans aR));clear nK aR Bw));have iq:X<=w6.heap.size:=by have:=du.out.size;omega
       obtain⟨wj,IV⟩:=aCY w6;clear IV;go_loopw [7] (λjv wi=>∃ (j:Nat) (z:List UInt8),q<=j/\j<=N/\jv = .int .i64 j/\X<=wi.heap.size/\Hid (Below X wo wi)/\Hid (wi.ownsRow X 9 1 (.slice (some ⟨g6,0,none⟩) N1 cap6) N1 ((o.take j++z::o.drop j).map av))) (λjv _=>(intOf jv).toNat)
       case atStart=>exact⟨N,sn.data.toList,by omega,bQ _,rfl,iq,du,jq (by rw[kQ (by rw[HN.out];exact bQ _),List.drop_eq_nil_of_le (by rw[HN.out];exact bQ _)];exact F5.out)⟩
       case round=>
        obtain⟨j,z,Xk,Ii,rfl,jR,Cf,pr⟩:=hrel;have kp:j<=o.length:=by rw[HN.out];exact Ii
        have Dv:X<=g6/\g6<wr.heap.size:=pr.out.lt g6 rfl;have DE:wr.cell? ⟨g6,j,none⟩=some (av z):=by rw[pr.out.cellAt j (by omega),List.getElem?_map,P9 kp];rfl
        have Wr:wr.frozen? ⟨g6,j,none⟩=false:=pr.out.frozenAt j;have WH:(0:Int)<=(j:Int):=by omega
        have WI:(j:Int)<(N1:Int):=by omega
        have WJ:j<N1:=by omega
        by_cases N3:q<j
        ·obtain⟨m,hm⟩:∃ m,j=m+1:=⟨j - 1,by omega⟩;have yd:m<o.length:=by omega
         obtain⟨u,hu⟩:∃ u,o[m]?=some u:=⟨_,aQ yd⟩;have yl:o[m]=u:=(cQ.1 hu).2;have fZ:wr.cell? ⟨g6,m,none⟩=some (av u):=by rw[pr.out.cellAt m (by omega),List.getElem?_map,amX (by omega) kp,hu];rfl
         have hjw:IntKind.i64.wrap ((j:Int) - 1)=(m:Int):=by rw[show (j:Int) - 1=m by omega];simp[IntKind.wrap,IntKind.bits,IntKind.signed];omega
         have jj:(0:Int)<=(m:Int):=by omega
         have NK:(m:Int)<(N1:Int):=by omega
         have jk:m<N1:=by omega
         have Nh:decide ((q:Int)<(j:Int))=true:=aDX;have dF:Hid ((wr.setCell ⟨g6,j,none⟩ (av u)).ownsRow X 9 1 (.slice (some ⟨g6,0,none⟩) N1 cap6) N1 ((o.take m++u::o.drop m).map av)):=jq (by
          have h1:=(World.ownsRow.stored pr.out j (av u)).1;rw[<-List.map_set] at h1;subst hm;rw[<-yl,amK yd,yl] at h1;exact h1)
         have jw:Hid (Below X wo (wr.setCell ⟨g6,j,none⟩ (av u))):=jq (Cf.out.setCell Dv.1 _);have Xl:q<=m:=by omega
         have WW:m<=N:=by omega
         have R6:Hid (m<j):=jq (by omega);clear hm hu yl;unfold av at DE fZ dF jw;go_wp2_with fail;go_roundw
         case rel=>exact⟨m,u,Xl,WW,rfl,by simp;omega,jw,dF⟩
         case measure=>have:=R6.out;simp[intOf] <;> omega
        ·have Ij:j=q:=by omega
         subst Ij;have Nh:decide ((j:Int)<(j:Int))=false:=aDJ;have dF:Hid ((wr.setCell ⟨g6,j,none⟩ (.string sn)).ownsRow X 9 1 (.slice (some ⟨g6,0,none⟩) N1 cap6) N1 ((o.take j++sn.data.toList::o.drop j).map av)):=jq (by
          have h1:=(World.ownsRow.stored pr.out j (av sn.data.toList)).1;rw[<-List.map_set,P7 kp] at h1;exact h1)
         have jw:Hid (Below X wo (wr.setCell ⟨g6,j,none⟩ (.string sn))):=jq (Cf.out.setCell Dv.1 _);have xk:Hid ((o.take j++sn.data.toList::o.drop j).length=N1):=jq (by rw[P8 kp];exact j9.out);unfold av at DE;go_wp2_with fail;go_roundw
         case rel=>exact⟨k+1,_,by omega,by go_num,by simp;omega,jq (HB.out.trans jw.out),jq (by unfold cG;rw[xk.out];exact dF.out),jq (by rw[l4.out,zl.out])⟩
         case measure=>simp[intOf] <;> omega
    ·have IC:q=N:=by omega
     have zl:Hid (Np.eP o sn.data.toList=o.take q++sn.data.toList::o.drop q):=jq (Jl o _ q (by rw[HN.out];exact Xj) HQ.out (λh=>by rw[HN.out] at h;omega));clear IC;obtain⟨N1,nv⟩:=aCQ (o.length+1);have G7:=HN.out;have ah:IntKind.i64.wrap ((N1:Int) - 1)=(N:Int):=by rw[show (N1:Int) - 1=N by omega];simp[IntKind.wrap,IntKind.bits,IntKind.signed];omega
     have Vy:N+1=N1:=by omega
     have j9:=jq nv;clear nv G7;have cm:=cU;have pp:Hid (cG X wr _ o):=jq (HO.out.keep cU.out);have Hc:X<=wr.heap.size:=by omega
     go_wp2_with (first | (at_builtin;refine yJ _ rfl _ _ rfl X _ o rfl (pp.out.alloc _) wr.heap.size sn.data.toList (by simp[go_sem]) (by simp[go_sem]) (by have:=l9.out;omega) (by simp;omega) ?_;intro v6 w6 nK aR;obtain⟨g6,cap6,rfl,Bw⟩:=PN nK j9.out;have F5:=jq Bw;have du:=jq ((((cm.out.mono AF).alloc Hc _).trans aR));clear nK aR Bw));have iq:X<=w6.heap.size:=by have:=du.out.size;omega
     obtain⟨wj,IV⟩:=aCY w6;clear IV;go_loopw [7] (λjv wi=>∃ (j:Nat) (z:List UInt8),q<=j/\j<=N/\jv = .int .i64 j/\X<=wi.heap.size/\Hid (Below X wo wi)/\Hid (wi.ownsRow X 9 1 (.slice (some ⟨g6,0,none⟩) N1 cap6) N1 ((o.take j++z::o.drop j).map av))) (λjv _=>(intOf jv).toNat)
     case atStart=>exact⟨N,sn.data.toList,by omega,bQ _,rfl,iq,du,jq (by rw[kQ (by rw[HN.out];exact bQ _),List.drop_eq_nil_of_le (by rw[HN.out];exact bQ _)];exact F5.out)⟩
     case round=>
      obtain⟨j,z,Xk,Ii,rfl,jR,Cf,pr⟩:=hrel;have kp:j<=o.length:=by rw[HN.out];exact Ii
      have Dv:X<=g6/\g6<wr.heap.size:=pr.out.lt g6 rfl;have DE:wr.cell? ⟨g6,j,none⟩=some (av z):=by rw[pr.out.cellAt j (by omega),List.getElem?_map,P9 kp];rfl
      have Wr:wr.frozen? ⟨g6,j,none⟩=false:=pr.out.frozenAt j;have WH:(0:Int)<=(j:Int):=by omega
      have WI:(j:Int)<(N1:Int):=by omega
      have WJ:j<N1:=by omega
      by_cases N3:q<j
      ·exact absurd N3 (by omega)
      ·have Ij:j=q:=by omega
       subst Ij;have Nh:decide ((j:Int)<(j:Int))=false:=aDJ;have dF:Hid ((wr.setCell ⟨g6,j,none⟩ (.string sn)).ownsRow X 9 1 (.slice (some ⟨g6,0,none⟩) N1 cap6) N1 ((o.take j++sn.data.toList::o.drop j).map av)):=jq (by
        have h1:=(World.ownsRow.stored pr.out j (av sn.data.toList)).1;rw[<-List.map_set,P7 kp] at h1;exact h1)
       have jw:Hid (Below X wo (wr.setCell ⟨g6,j,none⟩ (.string sn))):=jq (Cf.out.setCell Dv.1 _);have xk:Hid ((o.take j++sn.data.toList::o.drop j).length=N1):=jq (by rw[P8 kp];exact j9.out);unfold av at DE;go_wp2_with fail;go_roundw
       case rel=>exact⟨k+1,_,by omega,by go_num,by simp;omega,jq (HB.out.trans jw.out),jq (by unfold cG;rw[xk.out];exact dF.out),jq (by rw[l4.out,zl.out])⟩
       case measure=>simp[intOf] <;> omega
  ·have HT:Hid (l.take k=l):=jq (kQ (by omega));go_wp2_with fail;go_ret;refine⟨_,rfl,?_,HB.out⟩;have h1:=HE.out;rw[HT.out] at h1;rw[h1];exact HO.out
end
section
open Go.RowKit Go.Sort Go.Shelf
theorem Vi{W w':World}(h:D.Below W.heap.size W w'):∃ q os,w'=grow (W.drewN q) os:=by
 refine⟨w'.drawn - W.drawn,w'.heap.extract W.heap.size w'.heap.size,?_⟩;have hh:w'.heap=W.heap++w'.heap.extract W.heap.size w'.heap.size:=by
  apply Array.ext_getElem?;intro j;rcases Nat.lt_or_ge j W.heap.size with h1 | h1
  ·rw[Array.getElem?_append_left h1];exact h.block j h1
  ·rw[Array.getElem?_append_right h1,Array.getElem?_extract];split
   ·congr 1;omega
   ·rw[Array.getElem?_eq_none (by omega)]
 have hd:w'.drawn=W.drawn+(w'.drawn - W.drawn):=by have:=h.drawn;omega
 have h1:=h.os;have h2:=h.tape;have h3:=h.output
 cases w'
 cases W
 simp only[grow,World.drewN,World.mk.injEq] at *;exact⟨hh,h2,hd,h1,h3⟩
abbrev VN:={ x:List UInt8 // Np.aA x=true }
instance:Inhabited VN:=⟨⟨[46],by decide⟩⟩
def qx(x:VN):Value:=av x.1
def kS(x y:VN):Int:=Np.aH x.1 y.1
theorem aqX:SWO (ltOf kS) where
 irrefl x:=by unfold ltOf kS;rw[Np.fx.self];rfl
 trans x y z h1 h2:=by
  unfold ltOf kS at *;simp only[Qa] at *;exact Np.fx.trans _ _ _ h1 h2
 ntrans x y z h1 h2:=by
  unfold ltOf kS at *;simp only[decide_eq_false_iff_not] at *;intro h3;rcases Int.lt_trichotomy (Np.aH x.1 y.1) 0 with h4 | h4 | h4
  ·exact h1 h4
  ·have:=Np.fx.zero _ _ h4;rw[this] at h3;exact h2 h3
  ·have:=Np.fx.trans _ _ _ (Np.fx.anti' _ _ h4) h3
   exact h2 this
theorem arZ(x y:VN)(h1:ltOf kS x y=false)(h2:ltOf kS y x=false):x=y:=by
 unfold ltOf kS at *;simp only[decide_eq_false_iff_not] at *;apply Subtype.ext;rcases Int.lt_trichotomy (Np.aH x.1 y.1) 0 with h4 | h4 | h4
 ·exact absurd h4 h1
 ·exact Np.fx.zero _ _ h4
 ·exact absurd (Np.fx.anti' _ _ h4) h2
theorem Qs{x:List UInt8}(h:Np.aA x=true):(⟨x.toArray⟩:ByteArray).size<=140737488355328:=by
 have:=so h
 have e:(⟨x.toArray⟩:ByteArray).size=x.length:=by rw[<-aX]
 omega
theorem aBZ(x y:VN)(w:World) :
 Calls prog 136 #[qx x,qx y] w λe w'=>e = .returned (.int .i64 (kS x y))/\D.Below w.heap.size w w':=by
 have hc:=D.compare_any ⟨x.1.toArray⟩ ⟨y.1.toArray⟩ (Qs x.2) (Qs y.2) w;have e1:(⟨x.1.toArray⟩:ByteArray).data.toList=x.1:=rfl;have e2:(⟨y.1.toArray⟩:ByteArray).data.toList=y.1:=rfl;have e3:D.cmpVal x.1 y.1 = .tuple #[.int .i64 (kS x y),.int .i64 0]:=by unfold D.cmpVal;rw[x.2,y.2];rfl
 rw[e1,e2,e3] at hc;have HC:=jq hc;clear hc e1 e2 e3;unfold qx av;generalize kS x y=z at HC |-;go_enter func136,ntmps136;go_wp2_with (go_at_call 137;refine HC.out.mono ?_;rintro e w2 ⟨rfl,ae⟩;have ai:=jq ae;clear ae);go_ret;exact⟨rfl,ai.out⟩
theorem Wj(enc:VN->Value){w:World}{g n:Nat}{os:Array Obj}{cur:Array Value}{e:TypeId}{fr:Nat×Nat}(d:Array VN)(hb:w.heap[g]?=some (.cells cur e fr)) :
 (sortWorld enc w g 0 n d os).heap[g]?=some (.cells (putCells enc 0 d cur) e fr):=by
 have hl:g<w.heap.size:=(eQ.1 hb).1;unfold sortWorld;rw[heap_grow_old _ _ (by simpa [putRow,mapBlock,Sort.ahead] using hl)];simp[putRow,mapBlock,Sort.ahead,Array.getElem?_modify,hb,onCells]
theorem Vj(enc:VN->Value){w:World}{g n:Nat}{os:Array Obj}(d:Array VN):w.grownBy (sortWorld enc w g 0 n d os) (some g):=by
 unfold sortWorld;refine⟨rfl,rfl,rfl,by simp,λq hq hne=>?_⟩;rw[heap_grow_old _ _ (by simpa using hq)]
 have:g≠q:=λe=>hne (by rw[e])
 simp[putRow,mapBlock,Sort.ahead,Array.getElem?_modify,this]
theorem aoZ(base:Nat)(v:Value)(xs:List (List UInt8))(w:World)(hown:cG base w v xs)(hv:∀ x∈xs,Np.aA x=true)(hl:xs.length<=100000) :
 Calls prog 135 #[v,.func (.func 136) #[] #[]] w λe w'=>e = .returned (.tuple #[])/\cG base w' v (Np.tY xs)/\w.grownBy w' v.ownBlock:=by
 obtain⟨ys,X7⟩:∃ ys:List VN,ys.map (·.1)=xs:=⟨xs.pmap (λx h=>⟨x,h⟩) hv,by rw[List.map_pmap];simp⟩;subst X7;have hs:Np.tY (ys.map (·.1))=(ys.mergeSort λx y=>!(ltOf kS) y x).map (·.1):=by
  unfold Np.tY;exact (List.map_mergeSort (r:=λx y:VN=>!(ltOf kS) y x) (s:=λa b=>!decide (Np.aH b a<0)) (f:=λx:VN=>x.1) (l:=ys) (λa _ b _=>rfl)).symm
 have pM:w.ownsRow base 9 1 v (ys.map (·.1)).length ((ys.map (·.1)).map av):=hown;rw[List.length_map] at pM hl;rcases pM.2 with ⟨rfl,h0⟩ | ⟨g,cap,cur,rfl,eC,hb,h1,h2,h3,h4⟩
 ·have:ys = []:=rQ h0
  subst this;refine (Tryz.slices_SortFunc_none (α:=VN) none 0 _ w).mono ?_;intro e w' hh;obtain⟨rfl,rfl⟩:=hh;exact⟨rfl,by rw[hs];simpa using hown,⟨rfl,rfl,rfl,bQ _,λ_ _ _=>rfl⟩⟩
 have eg:∀ args w,(callFunc 136 args).run prog w = .ok (.enter 136 args) w:=enters_of func136 (by kernel_rfl) rfl;have hH:Holds qx w g 0 ys.toArray:=λj hj=>by
  have hj':j<ys.length:=by simpa using hj
  refine⟨?_,by simp[World.frozen?,hb]⟩
  have:=pM.cellAt j (by omega)
  rw[Nat.zero_add,this,List.getElem?_map,List.getElem?_map,aQ hj',getElem!_pos ys.toArray j hj];simp[qx]
 have AO:CmpLays1 prog 136 #[] qx kS g 0 ys.toArray.size w:=λm os dk _ x y=>(aBZ x y _).mono λe w' ⟨he,hw⟩=>⟨he,Vi hw⟩;have DF:=Tryz.slices_SortFunc_total qx (λ_=>rfl) kS aqX 136 #[] g 0 cap ys.toArray w eg AO hH (eQ.1 hb).1 (by simp;omega) arZ;have hlen:(ys.mergeSort λx y=>!(ltOf kS) y x).length=ys.length:=List.length_mergeSort _;rw[List.size_toArray] at DF;refine DF.mono λe w' ⟨he,n,os,hw⟩=>⟨he,?_,?_⟩
 ·subst hw;rw[hs];unfold cG;rw[List.length_map,hlen];refine⟨by simp,.inr ⟨g,cap,_,rfl,eC,Wj qx _ hb,h1,h2,by simp[putCells,h3],?_⟩⟩;apply List.ext_getElem?;intro j;by_cases hj:j<ys.length
  ·have x8:j<cur.size:=by omega
   have vw:j<(ys.mergeSort λx y=>!(ltOf kS) y x).length:=by omega
   rw[List.getElem?_take_of_lt (by omega),Array.getElem?_toList,List.getElem?_map,List.getElem?_map,aQ vw];simp[putCells,x8,hj,qx]
  ·rw[List.getElem?_take_eq_none (by omega),List.getElem?_eq_none (by simp;omega)]
 ·subst hw;exact Vj qx _
def iz(W:World)(B:Nat)(e:List Value)(h:Np.Hist):Prop:=∃ (hv cv:Value) (s:ByteArray) (dv dV:Value),e = [hv,cv,.string s,.int .i64 h.anchor.type,.int .i64 h.anchor.life,dv,dV,.int .i64 h.drift,.int .i64 h.stop]/\s.data.toList=h.anchor.name/\s.size<=140737488355328/\
 SlR kf 3 W B hv h.hosts/\SlR ma 5 W B cv h.copies/\SlR bK 3 W B dv h.anchor.data/\SlR kP 1 W B dV h.hints
theorem oZ:dL iz:=λ_ _ _ _ _ ⟨hv,cv,s,dv,dV,h0,h1,h2,h3,h4,h5,h6⟩ hb=>⟨hv,cv,s,dv,dV,h0,h1,h2,h3.keep o6 hb,h4.keep oY hb,h5.keep cM hb,h6.keep qV hb⟩
theorem o4:dZ iz:=λ_ _ _ _ _ ⟨hv,cv,s,dv,dV,h0,h1,h2,h3,h4,h5,h6⟩ hb=>⟨hv,cv,s,dv,dV,h0,h1,h2,h3.more yx hb,h4.more BU hb,h5.more dt hb,h6.more yy hb⟩
def Np.yM(h:Np.Hist):Prop:=h.copies.length<=500/\∀ c∈h.copies,c.zone.sets.length<=20000
theorem Tx{h:Np.Hist}(v:Np.VHist h):∀ x∈Np.dg (h.copies.map (·.zone.apex)),Np.aA x=true:=λx hx=>by
 obtain⟨c,hc,rfl⟩:=List.mem_map.1 (Np.tS.1 hx);have h1:=(v.each c hc).zone.right;unfold Np.fh at h1;simp only[Bool.and_eq_true] at h1;exact h1.1.1
theorem aBJ(e:List Value)(h:Np.Hist)(hf:Np.yM h)(w:World)(hR:iR w w.heap.size)(hh:iz w w.heap.size e h) :
 Calls prog 60 #[.agg e.toArray] w λe w'=>((Np.VHist h/\∃ v',e = .returned (.tuple #[v',.int .i64 0])/\cG w.heap.size w' v' (Np.apexes h.copies))\/(¬ Np.VHist h/\e = .returned (.tuple #[.slice none 0 0,.int .i64 1])))/\Below w.heap.size w w':=by
 obtain⟨hv,cv,s,dv,dV,rfl,h1,h2,h3,h4,h5,h6⟩:=hh;obtain⟨hosts,copies,⟨name,ty,life,data⟩,hints,drift,stop⟩:=h;dsimp only at h1 h3 h4 h5 h6;subst h1;have H3:=jq h3;have H4:=jq h4;have H5:=jq h5;have H6:=jq h6;have fV:=jq hR;have rc:=jq hf;obtain⟨A1,c1,rfl,_,_⟩:=ak h3;obtain⟨A2,c2,rfl,_,_⟩:=ak h4;obtain⟨A3,c3,rfl,_,_⟩:=ak h5;obtain⟨A4,c4,rfl,_,_⟩:=ak h6;clear h3 h4 h5 h6 hR hf;obtain⟨r,hr⟩:=aCQ (Np.yes (Np.VHist ⟨hosts,copies,⟨s.data.toList,ty,life,data⟩,hints,drift,stop⟩));have uD:=jq hr;obtain⟨n1,bU⟩:=aCQ hosts.length;obtain⟨n2,cV⟩:=aCQ copies.length;obtain⟨n3,eY⟩:=aCQ data.length;obtain⟨n4,fI⟩:=aCQ hints.length;rw[bU] at H3 |-;rw[cV] at H4 |-;rw[eY] at H5 |-;rw[fI] at H6 |-;clear hr bU cV eY fI;obtain⟨X,hX⟩:=aCQ w.heap.size;have kM:=jq hX;obtain⟨W1,ap⟩:=aCQ (w.alloc (.cells #[.slice A1 n1 c1,.slice A2 n2 c2,.string s,.int .i64 ty,.int .i64 life,.slice A3 n3 c3,.slice A4 n4 c4,.int .i64 drift,.int .i64 stop] 29));have aD:Below w.heap.size w W1:=by rw[<-ap];exact (vQ _ _).alloc (bQ _) _
 have jR:W1.heap.size=w.heap.size+1:=by rw[<-ap];simp
 have k0:W1.cell? ⟨X,0,none⟩=some (.slice A1 n1 c1):=by rw[<-ap,<-hX];simp[go_sem]
 have k1:W1.cell? ⟨X,1,none⟩=some (.slice A2 n2 c2):=by rw[<-ap,<-hX];simp[go_sem]
 have k2:W1.cell? ⟨X,2,none⟩=some (.string s):=by rw[<-ap,<-hX];simp[go_sem]
 have k3:W1.cell? ⟨X,3,none⟩=some (.int .i64 ty):=by rw[<-ap,<-hX];simp[go_sem]
 have k4:W1.cell? ⟨X,4,none⟩=some (.int .i64 life):=by rw[<-ap,<-hX];simp[go_sem]
 have k5:W1.cell? ⟨X,5,none⟩=some (.slice A3 n3 c3):=by rw[<-ap,<-hX];simp[go_sem]
 have k6:W1.cell? ⟨X,6,none⟩=some (.slice A4 n4 c4):=by rw[<-ap,<-hX];simp[go_sem]
 have k7:W1.cell? ⟨X,7,none⟩=some (.int .i64 drift):=by rw[<-ap,<-hX];simp[go_sem]
 have k8:W1.cell? ⟨X,8,none⟩=some (.int .i64 stop):=by rw[<-ap,<-hX];simp[go_sem]
 rw[hX] at aD jR H3 H4 H5 H6 fV |-;have aZ:=jq aD;clear aD;go_enter func60,ntmps60;go_wp2_with fail;refine (Ny _ hosts _ copies s h2 ty life _ data _ hints drift stop rc.out.1 rc.out.2 _ ((fV.out.keep aZ.out).more (by omega)) ((H3.out.keep o6 aZ.out).more yx (by omega)) ((H4.out.keep oY aZ.out).more BU (by omega)) ((H5.out.keep cM aZ.out).more dt (by omega)) ((H6.out.keep qV aZ.out).more yy (by omega))).mono ?_;rintro e w2 ⟨rfl,ae⟩;have aK:=ae.size;have m1:w2.cell? ⟨X,1,none⟩=some (.slice A2 n2 c2):=aBX ae k1;have ai:=aBY aZ ae;clear ae ap k0 k1 k2 k3 k4 k5 k6 k7 k8 hX;rw[uD.out]
 cases r with
 | false=>
  have HN:Hid (¬ Np.VHist ⟨hosts,copies,⟨s.data.toList,ty,life,data⟩,hints,drift,stop⟩):=jq (λh=>by have:=Np.ba h;rw[uD.out] at this;cases this);go_wp2_with fail;go_ret2;exact⟨.inr ⟨HN.out,rfl⟩,ai.out⟩
 | true=>
  have HV:Hid (Np.VHist ⟨hosts,copies,⟨s.data.toList,ty,life,data⟩,hints,drift,stop⟩):=jq (Np.fj.1 uD.out);have sL:Hid (copies.length<=500):=jq rc.out.1;go_wp2_with fail;refine (QD _ copies (by have:=sL.out;omega) _ ((H4.out.keep oY ai.out).more BU (by omega))).mono ?_;rintro e w3 ⟨v3,rfl,pL,al⟩;have eF:=al.size;have ia:=jq pL;have am:=aBY ai al;clear pL al;go_wp2_with fail;refine (aoZ w2.heap.size _ _ _ ia.out (Tx HV.out) (by have:=Np.ua (copies.map (·.zone.apex));rw[List.length_map] at this;have:=sL.out;omega)).mono ?_;rintro e w4 ⟨rfl,rN,Nq⟩;have H4':=jq (And.intro (cG.weak rN (show X<=w2.heap.size by omega)) (am.out.grown Nq (by omega) (λq hq=>by have:=(World.ownsRow.lt ia.out q hq).1;omega)));clear rN Nq;go_wp2_with fail;go_ret2;exact⟨.inl ⟨HV.out,_,rfl,H4'.out.1⟩,H4'.out.2⟩
end
end Go.Proofs.YtfnopgdcaanaiaaGreatDoor
