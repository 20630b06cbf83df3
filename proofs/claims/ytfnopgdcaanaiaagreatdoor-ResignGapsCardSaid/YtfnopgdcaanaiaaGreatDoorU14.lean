/- Parts of the proof. No condition. -/
import Derived.Lib.LazyBuf
import Derived.Test.YtfnopgdcaanaiaaGreatDoorU08
import Derived.Test.YtfnopgdcaanaiaaGreatDoorU10
set_option linter.all false
set_option maxRecDepth 100000
set_option maxHeartbeats 8000000
namespace Go.Proofs.YtfnopgdcaanaiaaGreatDoor
open Go.Proofs.Tryz
section
open Go.RowKit
theorem Hd{c:UInt8}{r:List UInt8}(hc:c≠46):∃ x xs,Np.aT (c::r)=(c::x)::xs:=by
 unfold Np.aT;rw[Qc hc]
 cases Np.aT r with
 | nil=>exact⟨[],[],rfl⟩
 | cons x xs=>exact⟨x,xs,rfl⟩
theorem OC{l:List UInt8}(h:Np.aD l=true):Np.dO l=((Np.dS l).head? == some [42]):=by
 unfold Np.dS;by_cases hd:l = [46]
 ·subst hd;decide
 ·rw[Qc hd]
  cases l with
  | nil=>exact absurd h (by decide)
  | cons c r=>
   have hg:Np.eu (Np.aT (c::r)).reverse 0 false=true:=by
    unfold Np.aD at h;rw[Qc hd] at h;split at h
    ·cases h
    ·exact h
   have hl:=Np.KD _ _ _ hg;by_cases hc:c=46
   ·subst hc;have e:Np.aT (46::r) = []::Np.aT r:=by rw[Np.aT,Qb rfl]
    rw[e] at hl
    have:=hl [] (by simp)
    rcases this with h1 | h1
    ·cases h1
    ·exact absurd h1 (by decide)
   ·obtain⟨x,xs,e⟩:=Hd (r:=r) hc;rw[e] at hl |-;rw[Bool.eq_iff_iff];simp only[Np.dO,List.head?_cons,beq_iff_eq,Option.some.injEq,List.cons.injEq];constructor
    ·rintro rfl;rcases hl (42::x) (by simp) with h1 | h1
     ·simpa using h1
     ·exfalso;unfold Np.bP at h1;simp only[Bool.and_eq_true,List.all_cons] at h1;exact absurd h1.2.1 (by decide)
    ·exact λh=>h.1
theorem Nu(s:ByteArray)(h:Np.aD s.data.toList=true)(w:World) :
 Calls prog 158 #[.string s] w (aeJ w.heap.size w (.bool (Np.dO s.data.toList))):=by
 have hw:=OC h;have al:=vM h;obtain⟨ps,eC⟩:=abK (Np.dS s.data.toList);obtain⟨r,hr⟩:=abK (ps.head? == some [42]);rw[hw,eC,hr];have pD:=jq eC;have HR:=jq hr;clear hw h eC hr;go_enter func158,ntmps158;go_wp2_with fail;refine (z6 s (by omega) _).mono ?_;rw[pD.out];rintro e w1 ⟨v,rfl,hv,hb⟩;have HB:=jq hb;clear hb;obtain⟨A,c,rfl,hc,hl,he⟩:=hv
 cases ps with
 | nil=>
  have HX:Hid (r=false):=jq (by rw[<-HR.out];rfl);go_wp2_with fail;go_ret;exact⟨ae HX.out.symm,HB.out⟩
 | cons x xs=>
  obtain⟨b,o,e,rfl,bq,_,hce,hx⟩:=he 0 x rfl;have hx':e = [ay x]:=hx;subst hx';have h0:w1.cell? ⟨b,o,none⟩=some (ay x):=by have:=hce 0 _ rfl;simpa using this
  have HX:Hid ((x == [42])=r):=jq (by rw[<-HR.out,List.head?_cons,Bool.eq_iff_iff];simp);obtain⟨n,hn⟩:=abK ((x::xs).length);have jn:0<n:=by rw[<-hn];simp
  have UC:(0:Int)<(n:Int):=by omega
  rw[hn];clear he hce hx hc hl hn;go_wp2_with fail
  all_goals
   go_ret;refine⟨ae ?_,HB.out⟩;rw[<-HX.out]
end
section
open Go.RowKit Go.Shelf
attribute [local go_sem] Oper.semAt_some
theorem er.block{w w':World}{B:Nat}{xs:List (List UInt8)}(h:er w B xs)(hb:w'.heap[B]?=w.heap[B]?):er w' B xs:=λj x hx=>by
 obtain⟨s,h1,h2,h3,h4⟩:=h j x hx;refine⟨s,h1,h2,(iQ (a:=⟨B,j,none⟩) hb).trans h3,?_⟩;rw[<-h4];simp only[World.frozen?,hb]
def Ju(w:World)(M b5 b6:Nat)(pre:List (List UInt8))(S:Nat->Prop)(W:World):Prop:=
 (∀ k,S k↔k=M\/k=b5\/k=b6)/\Boxed W b5 116 (.slice (some ⟨M,0,none⟩) 8 8)/\Boxed W b6 3 (.int .i64 ((8 - pre.length:Nat):Int))/\pre.length<=8/\Hid (er W M (List.replicate (8 - pre.length) []++pre.reverse))/\M<W.heap.size/\Below w.heap.size w W
theorem Mz(w:World)(M b5 b6:Nat)(B:Nat)(hB:w.heap.size<=B):eq B (Ju w M b5 b6):=by
 rintro s S W W' ⟨hS,h1,h2,h3,h4,h6,h5⟩ av;refine⟨hS,fL h1 av ((hS _).2 (.inr (.inl rfl))),fL h2 av ((hS _).2 (.inr (.inr rfl))),h3,jq (h4.out.block ?_),lQ h6 av.size,qV h5 av hB (bQ _)⟩;exact av.keep _ h6 (.inr ((hS _).2 (.inl rfl)))
theorem V3{p:Nat}{pre:List (List UInt8)}{x:List UInt8}(hp:pre.length=p)(h8:p<8):(List.replicate (8 - p) []++pre.reverse).set (8 - (p+1)) x=List.replicate (8 - (p+1)) []++(pre ++ [x]).reverse:=by
 have e:List.replicate (8 - p) ([]:List UInt8)=List.replicate (8 - (p+1)) [] ++ [[]]:=by
  rw[show 8 - p=(8 - (p+1))+1 by omega,List.replicate_succ']
 rw[e,List.append_assoc,List.set_append_right _ _ (by rw[List.length_replicate];exact bQ _),List.length_replicate,Nat.sub_self,List.reverse_append];rfl
theorem Fi:∀ (xs:List (List UInt8)) (n:Nat) (b:Bool),Np.eu xs n b=true->n<=8->n+xs.length<=8
 | [],n,b,_,h=>by simpa using h
 | x::xs,n,b,h,hn=>by
   unfold Np.eu at h;split at h
   ·cases h
   ·rename_i hc;simp only[Bool.or_eq_true,Qa,not_or] at hc;rw[List.length_cons];split at h
    ·have:=Fi xs (n+1) true h (by omega);omega
    ·split at h
     ·have:=Fi xs (n+1) false h (by omega);omega
     ·cases h
theorem Rg{l:List UInt8}(h:Np.aD l=true):(Np.back l).length<=8:=by
 unfold Np.back;split
 ·simp
 ·rename_i hd;unfold Np.aD at h;rw[Qc hd] at h;split at h
  ·cases h
  ·have:=Fi _ 0 false h (by omega)
   omega
theorem V8(t:ByteArray)(hv:Np.aD t.data.toList=true)(w:World) :
 Calls prog 187 #[.string t] w λe w'=>(∃ v,e = .returned (.tuple #[v,.int .i64 0])/\SlR RTx 1 w' w'.heap.size v (Np.dS t.data.toList))/\Below w.heap.size w w':=by
 have ht:t.size<=60:=vM hv;have wF:Hid ((Np.back t.data.toList).length<=8):=jq (Rg hv);have HV:=jq hv;clear hv;have fu:∀ w:World,(Instr.makeSlice 116 (.int .i64 8) (.int .i64 8)).run prog w = .ok (.slice (some ⟨w.heap.size,0,none⟩) 8 8) (w.alloc (.cells (madeCells #[Value.string ⟨#[]⟩] 8) 9)):=λw=>GR 8 (by decide) w;have HZ:Hid (∀ j,j<8->(madeCells #[Value.string ⟨#[]⟩] 8)[j]?=some (.string ⟨#[]⟩)):=jq (λj hj=>GQ _ _ hj);generalize madeCells #[Value.string ⟨#[]⟩] 8=Z at fu HZ;refine (callsIn_wide (n:=0)).1 ?_;refine callsIn_of_wp_marks func187 rfl trivial ?_ rfl;simp only[ntmps187,List.size_toArray,List.length_cons,List.length_nil,Nat.reduceAdd,Nat.reduceSub,Array.replicate_succ,Array.replicate_zero,List.push_toArray,List.append_toArray,List.nil_append,List.cons_append];gi_wp2_with fail;refine⟨trivial,rfl,?_⟩;refine (callsIn_wide.2 (valid_any t (by omega) _)).mono ?_;rintro e w1 ⟨rfl,an⟩;rw[HV.out];have ar:=jq an;have bg:=an.size;clear an;gi_wp2_with fail;have b5:=Boxed.new (w1.alloc (.cells Z 9)) 116 (.slice (some ⟨w1.heap.size,0,none⟩) 8 8);have b6:=Boxed.new ((w1.alloc (.cells Z 9)).alloc (.cells #[.slice (some ⟨w1.heap.size,0,none⟩) 8 8] 116)) 3 (.int .i64 8);simp only[World.size_alloc] at b5 b6;have yh:er (w1.alloc (.cells Z 9)) w1.heap.size (List.replicate 8 []):=λj x hx=>by
  rw[List.getElem?_replicate] at hx;split at hx
  ·rename_i hj
   cases hx
   exact⟨⟨#[]⟩,rfl,by decide,by simp[go_sem];exact HZ.out j hj,by simp[go_sem]⟩
  ·cases hx
 refine AA (n₀:=w.heap.size) (w0:=w) (first:=#[.string t]) (captured:=#[]) (gf:=215) rfl (enters_of func215 (by kernel_rfl) rfl) (mk:=λy=>#[.string t,y]) (λ_=>rfl)
  (Bz t (by omega) _ w) (ar.out.trans ((((vQ _ w1).alloc (bQ _) _).alloc (by simp) _).alloc (by simp;omega) _ |>.mono bg)) (by simp;omega) (λ_=>rfl) (Ju w w1.heap.size (w1.heap.size+1) (w1.heap.size+1+1)) (λ_ _ _ _=>False)
  (Mz _ _ _ _ _ (by simp;omega)) (λc s S W W' h _=>h)
  (λk=>k=w1.heap.size\/k=w1.heap.size+1\/k=w1.heap.size+1+1) (by intro k h;omega) (by intro k h;simp;omega)
  ⟨λ_=>Iff.rfl,b5.alloc _,b6,by simp,jq ((yh.keep (((vQ _ _).alloc (bQ _) _).alloc (by simp) _) (by simp))),by simp;omega,ar.out.trans ((((vQ _ w1).alloc (bQ _) _).alloc (by simp) _).alloc (by simp;omega) _ |>.mono bg)⟩ ?round ?done ?stop
 case round=>
  rintro l0 pre x S W aU hI eW;gi_wp2;refine⟨S,RdStep.refl _ _,λk e=>.inl e,eW,?_⟩;intro l W₂ av;obtain⟨hS,c5,c6,h8,hrow,Fv,hB⟩:=Mz w _ _ _ _ (by simp;omega) pre S W W₂ hI av;have tM:pre.length+1<=8:=by
   have:=aU.length_le
   have h9:=wF.out;simp at this;omega
  have hx:x∈Np.back t.data.toList:=aU.subset (by simp);have qu:x.length<=60:=by have:=Np.By hx;rw[aX] at this;omega
  have eB:∀ k,S k->k<W₂.heap.size:=λk e=>lQ (eW k e) av.size;obtain⟨j,hj⟩:∃ j,8 - (pre.length+1)=j:=⟨_,rfl⟩;have hq:((8 - pre.length:Nat):Int)=((j+1:Nat):Int):=by omega
  rw[hq] at c6;have hj8:j<8:=by omega
  obtain⟨sz,_,_,tp,tu⟩:=hrow.out j [] (by rw[List.getElem?_append_left (by rw[List.length_replicate];omega),List.getElem?_replicate,Qb (by omega)]);have lN:Hid (∀ W',er W' w1.heap.size (List.replicate (8 - pre.length) []++pre.reverse)->er (W'.setCell ⟨w1.heap.size,j,none⟩ (ay x)) w1.heap.size (List.replicate (8 - (pre ++ [x]).length) []++(pre ++ [x]).reverse)):=jq (λW' hW=>by
   have h1:=hW.store (k:=j) (by rw[List.length_append,List.length_replicate,List.length_reverse];omega) ⟨x.toArray⟩ (by rw[<-aX];simp;omega);have e:((⟨x.toArray⟩:ByteArray).data.toList)=x:=by simp
   rw[e,<-hj,V3 rfl (by omega)] at h1;rw[List.length_append,List.length_singleton,<-hj];exact h1)
  have HOLD:=jq hrow.out;have eI:=jq c5;have iH:=jq c6;have c5c:=c5.cell;have c6c:=c6.cell;have c5f:=c5.frozen;have c6f:=c6.frozen;have ak:IntKind.i64.wrap (((j+1:Nat):Int) - 1)=(j:Int):=by rw[IntWalk.i64_in _ (by omega)];omega
  have iS:(0:Int)<=(j:Int):=by omega
  have rl:(j:Int)<8:=by omega
  have HJ:=jq hj;clear hx hq aU hI hrow c5 c6 hj;have hlen:8 - (pre ++ [x]).length=j:=by rw[List.length_append,List.length_singleton];exact HJ.out
  have uv:=jq hlen;clear hlen;gi_wp2;refine⟨S,((RdStep.refl S W₂).setCell (p:=⟨w1.heap.size+1+1,0,none⟩) (.inl ((hS _).2 (.inr (.inr rfl)))) _).setCell (p:=⟨w1.heap.size,j,none⟩) (.inl ((hS _).2 (.inl rfl))) _,λ_ e=>.inl e,λk e=>by have:=eB k e;simp[World.setCell];omega,hS,?_,?_,by rw[List.length_append,List.length_singleton];omega,jq (lN.out _ (HOLD.out.other (by simp <;> omega) _)),by simpa using Fv,(hB.setCell (p:=⟨w1.heap.size+1+1,0,none⟩) (by simp;omega) _).setCell (p:=⟨w1.heap.size,j,none⟩) (by simpa using bg) _⟩
  ·exact bK (bK eI.out (p:=⟨w1.heap.size+1+1,0,none⟩) (by simp) _) (p:=⟨w1.heap.size,j,none⟩) (by simp) _
  ·rw[uv.out];exact bK (iH.out.set _) (p:=⟨w1.heap.size,j,none⟩) (by simp <;> omega) _
 case done=>
  rintro D S W hD ew aM ⟨hS,c5,c6,h8,hrow,Fv,hB⟩ hK;have c5c:=c5.cell;have c6c:=c6.cell;obtain⟨n,hn⟩:=abK ((Np.back t.data.toList).length);rw[hn] at c6c h8;obtain⟨q,hq⟩:∃ q,8 - n=q:=⟨_,rfl⟩;rw[hq] at c6c;have tN:q<=8:=by omega
  have nU:(0:Int)<=(q:Int):=by omega
  have Gh:(q:Int)<=8:=by omega
  have HN:=jq hn;have HQ:=jq hq;have PY:Hid (w1.heap.size≠D):=jq (λe=>ew ((hS _).2 (.inl e.symm)));have lN:=jq hrow.out;have I3:Hid (Np.dS t.data.toList=(Np.back t.data.toList).reverse):=jq (by rw[<-Np.zU,List.reverse_reverse]);have EM:Hid (∀ x∈Np.back t.data.toList,x.length<=140737488355328):=jq (λx hx=>by have:=Np.By hx;rw[aX] at this;omega);clear hrow;by_cases jn:n=0
  ·have UK:q=8:=by omega
   have P4:Hid (Np.dS t.data.toList = []):=jq (by rw[I3.out,rQ (HN.out.trans jn)];rfl);clear hn hq c5 c6 jn;subst UK;gi_wp2;exact mN hK (v:=.tuple #[.slice (some ⟨w1.heap.size,0,none⟩) 0 0,.int .i64 0]) (by simp[results,results187,go_sem]) ⟨⟨_,rfl,by rw[P4.out];exact⟨_,_,rfl,by simp,by simp,λi x hx=>by simp at hx⟩⟩,mK hB (by have:=ar.out.size;simp at hD;omega) _⟩
  ·have zl:q<8:=by omega
   have aqZ:(q:Int)<8:=by omega
   have jr:¬ q=8:=by omega
   have jL:Hid (8 - q=n):=jq (by omega);have Lu:8 - q=n:=by omega
   clear hn hq c5 c6 jn;gi_wp2;refine mN hK (v:=.tuple #[.slice (some ⟨w1.heap.size,q,none⟩) n n,.int .i64 0]) (by simp[results,results187,go_sem]) ⟨⟨_,rfl,?_⟩,mK hB (by have:=ar.out.size;simp at hD;omega) _⟩;have hr:er (W.putObj D (.deferred none)) w1.heap.size (List.replicate (8 - (Np.back t.data.toList).length) []++(Np.back t.data.toList).reverse):=lN.out.block (zQ PY.out);rw[I3.out];have tI:(Np.back t.data.toList).reverse.length=n:=by rw[List.length_reverse];exact HN.out
   refine⟨_,n,by rw[tI],by omega,by omega,λi x hx=>?_⟩;have hin:=(cQ.1 hx).1;obtain⟨s,h1,h2,h3,_⟩:=hr (q+i) x (by rw[HN.out,HQ.out,oQ (by rw[List.length_replicate];omega),List.length_replicate,show q+i - q=i by omega];exact hx);refine⟨w1.heap.size,q,[.string s],rfl,by simpa using Fv,rfl,λj v hv=>?_,s,h1,h2,rfl⟩
   match j,hv with
   | 0,hv=>cases hv;simpa using h3
 case stop=>
  rintro D c pre S W hD ew aM gD h hK;exact h.elim
theorem ZN(s:ByteArray)(h:Np.aD s.data.toList=true)(w:World) :
 Calls prog 246 #[.string s] w (aeJ w.heap.size w (.bool (Np.dO s.data.toList))):=by
 have hw:=OC h;obtain⟨ps,eC⟩:=abK (Np.dS s.data.toList);obtain⟨r,hr⟩:=abK (ps.head? == some [42]);rw[hw,eC,hr];have pD:=jq eC;have HR:=jq hr;have HV:=jq h;clear hw h eC hr;go_enter func246,ntmps246;go_wp2_with fail;refine (V8 s HV.out _).mono ?_;rw[pD.out];rintro e w1 ⟨⟨v,rfl,hv⟩,hb⟩;have HB:=jq hb;clear hb;obtain⟨A,c,rfl,hc,hl,he⟩:=hv
 cases ps with
 | nil=>
  have HX:Hid (r=false):=jq (by rw[<-HR.out];rfl);go_wp2_with fail;go_ret;exact⟨ae HX.out.symm,HB.out⟩
 | cons x xs=>
  obtain⟨b,o,e,rfl,bq,_,hce,sx,rK,_,rfl⟩:=he 0 x rfl;have h0:w1.cell? ⟨b,o,none⟩=some (.string sx):=by have:=hce 0 _ rfl;simpa using this
  obtain⟨q,hq⟩:=abK (sx.toList == [42]);have HX:Hid (q=r):=jq (by rw[<-HR.out,<-hq,dQ,rK,List.head?_cons,Bool.eq_iff_iff];simp);obtain⟨n,hn⟩:=abK ((x::xs).length);have jn:0<n:=by rw[<-hn];simp
  have UC:(0:Int)<(n:Int):=by omega
  rw[hn];clear he hce hc hl hn rK
  cases q with
  | true=>
   go_wp2_with fail;go_ret;exact⟨ae HX.out,HB.out⟩
  | false=>
   go_wp2_with fail;go_ret;exact⟨ae HX.out,HB.out⟩
end
section
open Go.RowKit
def kl(_:World)(_:Nat)(e:List Value)(x:Np.Host):Prop:=∃ s:ByteArray,s.data.toList=x.name/\s.size<=140737488355328/\e = [.string s,.int .i64 x.addr,.int .i64 x.owner]
theorem nl:cL kl:=λ_ _ _ _ _ h _=>h
theorem vT:dD kl:=λ_ _ _ _ _ h _=>h
theorem zj{w:World}{B n c:Nat}{A:Option Addr}{xs:List Np.Host}(h:SlR kl 3 w B (.slice A n c) xs){k:Nat}{x:Np.Host}(hx:xs[k]?=some x):∃ (b o:Nat) (s:ByteArray),A=some ⟨b,o,none⟩/\b<B/\s.data.toList=x.name/\s.size<=140737488355328/\w.cell? ⟨b,o+k * 3,none⟩=some (.string s)/\w.cell? ⟨b,o+k * 3+1,none⟩=some (.int .i64 x.addr)/\w.cell? ⟨b,o+k * 3+2,none⟩=some (.int .i64 x.owner):=by
 obtain⟨A',c',hv,hc,_,he⟩:=h;simp only[Value.slice.injEq] at hv;obtain⟨rfl,_,_⟩:=hv;obtain⟨b,o,e,rfl,hb,_,hce,s,h1,h2,rfl⟩:=he k x hx;exact⟨b,o,s,rfl,hb,h1,h2,by have:=hce 0 _ rfl;simpa using this,hce 1 _ rfl,hce 2 _ rfl⟩
theorem VG{w:World}{B n c:Nat}{A:Option Addr}{xs:List Int}(h:SlR gL 1 w B (.slice A n c) xs){k:Nat}{x:Int}(hx:xs[k]?=some x):∃ (b o:Nat),A=some ⟨b,o,none⟩/\b<B/\w.cell? ⟨b,o+k,none⟩=some (.int .i64 x):=by
 obtain⟨A',c',hv,hc,_,he⟩:=h;simp only[Value.slice.injEq] at hv;obtain⟨rfl,_,_⟩:=hv;obtain⟨b,o,e,rfl,hb,_,hce,rfl⟩:=he k x hx;exact⟨b,o,rfl,hb,by have:=hce 0 _ rfl;simpa using this⟩
def Np.km(n:Int):Bool:=decide (1<=n)&&decide (n<=1000000)
theorem Ht(n:Int)(w:World) :
 Calls prog 247 #[.int .i64 n] w (aeY w (.bool (Np.km n))):=by
 obtain⟨r,hr⟩:=abK (Np.km n);rw[hr];by_cases h1:1<=n
 ·by_cases h2:n<=1000000
  ·have HX:Hid (r=true):=jq (by rw[<-hr];simp[Np.km,h1,h2]);clear hr;go_enter func247,ntmps247;go_wp2_with fail;go_ret;exact⟨ae HX.out.symm,rfl⟩
  ·have HX:Hid (r=false):=jq (by rw[<-hr];simp[Np.km,h2]);clear hr;go_enter func247,ntmps247;go_wp2_with fail;go_ret;exact⟨ae HX.out.symm,rfl⟩
 ·have HX:Hid (r=false):=jq (by rw[<-hr];simp[Np.km,h1]);clear hr;go_enter func247,ntmps247;go_wp2_with fail;go_ret;exact⟨ae HX.out.symm,rfl⟩
theorem JH(a:Int):∀ l:List Np.Host,(((l.map λh=>(h.addr,Value.bool true)).lookup a).getD (.bool false) = .bool (decide (a∈l.map (·.addr))))/\(a∉l.map (·.addr)->(l.map λh=>(h.addr,Value.bool true)).lookup a=none)
 | []=>⟨rfl,λ_=>rfl⟩
 | h::l=>by
   obtain⟨i1,i2⟩:=JH a l;rw[List.map_cons,List.map_cons];by_cases e:a=h.addr
   ·subst e;rw[List.lookup_cons_self];exact⟨by simp,λhn=>absurd (by simp) hn⟩
   ·have hb:(a == h.addr)=false:=by simpa using e
    rw[List.lookup_cons,hb];exact⟨by rw[i1];simp[e],λhn=>i2 λhm=>hn (mQ _ hm)⟩
theorem ZC(v:Value)(l:List Np.Host)(w:World)(hd:SlR kl 3 w w.heap.size v l) :
 Calls prog 180 #[v] w (aeJ w.heap.size w (.bool (Np.yes (Np.VHosts l)))):=by
 obtain⟨r,hr⟩:=abK (Np.yes (Np.VHosts l));rw[hr];have HR:=jq hr;have HD:=jq hd;obtain⟨A,c,rfl,aW,bh⟩:=aj hd;clear hr hd;by_cases td:l.length<=64
 ·have DA:=jq td;have tF:∀ (w:World),(Instr.makeMap 298 none).run prog w = .ok (.map (some w.heap.size)) (w.alloc (.map #[] 0)):=λw=>by
   simp[Instr.makeMap,Result.andThen]
  go_enter func180,ntmps180;go_wp2_with fail;have sI:=jq (lR.made w);have an:Below w.heap.size w (w.alloc (.map #[] 0)):=(vQ _ w).alloc (bQ _) _;have ar:=jq an;have bg:w.heap.size<(w.alloc (.map #[] 0)).heap.size:=by simp
  clear an;generalize w.alloc (.map #[] 0)=w1 at *;go_loopw [12] (λi wr=>∃ k:Nat,k<=l.length/\i = .int .i64 k/\Hid (Below w.heap.size w wr)/\w.heap.size<wr.heap.size/\Hid (lR w.heap.size ((l.take k).map λh=>(h.addr,Value.bool true)) wr)/\Hid (∀ j x,j<k->l[j]?=some x->Np.HostOk x)/\Hid (((l.take k).map (·.addr)).Nodup)) (λi _=>l.length - (intOf i).toNat)
  case atStart=>exact⟨0,jQ _,rfl,ar,bg,sI,jq (λj x hj=>by omega),jq (by simp)⟩
  case round=>
   obtain⟨k,hk,rfl,HB,bO,HM,HA,xe⟩:=hrel;by_cases aa:k<l.length
   ·obtain⟨x,ac⟩:∃ x,l[k]?=some x:=⟨_,aQ aa⟩;obtain⟨b,o,sn,rfl,bp,aw,cE,f0,f1,f2⟩:=zj (HD.out.keep nl HB.out) ac;have ht:l.take (k+1)=l.take k ++ [x]:=by
     obtain⟨hl,he⟩:=cQ.1 ac;rw[fQ hl,he]
    have HT:=jq ht;have HN:Hid (Np.HostOk x->∀ j y,j<k+1->l[j]?=some y->Np.HostOk y):=jq (λh j y hj hy=>by
     by_cases e:j=k
     ·subst e;rw[ac] at hy;cases hy;exact h
     ·exact HA.out j y (by omega) hy)
    have HF:Hid (¬ Np.HostOk x->r=false):=jq (λh=>by rw[<-HR.out];exact Np.aK λq=>h (q.each x (gQ ac)));have sB:Hid (x.addr∈(l.take k).map (·.addr)->r=false):=jq (λh=>by
     rw[<-HR.out];refine Np.aK λq=>?_;have h1:=q.addrs;have h2:(l.take (k+1)).map (·.addr) <+: l.map (·.addr):=by rw[List.map_take];exact List.take_prefix _ _
     have h3:=h1.sublist h2.sublist;rw[ht,List.map_append,List.nodup_append] at h3;exact h3.2.2 x.addr h x.addr (by simp) rfl)
    have aS:=jq aw;have eS:Hid (∀ o,Below wr.heap.size wr (wr.alloc o)):=jq (λo=>(vQ _ _).alloc (bQ _) _);obtain⟨w2,ag⟩:=abK (wr.alloc (.cells #[.string sn,.int .i64 x.addr,.int .i64 x.owner] 101));have ab:Below wr.heap.size wr w2:=by rw[<-ag];exact eS.out _
    have p0:w2.cell? ⟨wr.heap.size,0,none⟩=some (.string sn):=by rw[<-ag];simp[go_sem]
    have p1:w2.cell? ⟨wr.heap.size,1,none⟩=some (.int .i64 x.addr):=by rw[<-ag];simp[go_sem]
    have p2:w2.cell? ⟨wr.heap.size,2,none⟩=some (.int .i64 x.owner):=by rw[<-ag];simp[go_sem]
    have aO:wr.heap.size<w2.heap.size:=by rw[<-ag];simp
    have ai:=jq ab;clear ac aw ht ab;go_wp2_with fail;clear ag f0 f1 f2;refine (nameValid_any sn cE _).mono ?_;rintro e w3 ⟨rfl,ah⟩;have fW:=ah.size;have aB:=abJ ai ah;replace p0:w3.cell? ⟨wr.heap.size,0,none⟩=some (.string sn):=(ah.cell (by simpa using aO)).trans p0;replace p1:w3.cell? ⟨wr.heap.size,1,none⟩=some (.int .i64 x.addr):=(ah.cell (by simpa using aO)).trans p1;replace p2:w3.cell? ⟨wr.heap.size,2,none⟩=some (.int .i64 x.owner):=(ah.cell (by simpa using aO)).trans p2;clear ah
    cases kb:Np.aD sn.data.toList with
    | false=>
     have HX:Hid (r=false):=jq (HF.out λh=>by have:=h.name;rw[<-aS.out,kb] at this;cases this);clear kb;go_wp2_with fail;go_ret;exact⟨ae HX.out.symm,HB.out.trans (aB.out.acQ)⟩
    | true=>
     have f8:=jq kb;clear kb;go_wp2_with fail;refine (ZN sn f8.out _).mono ?_;rintro e w4 ⟨rfl,aq⟩;have gX:=aq.size;have bJ:=abJ aB aq;replace p1:=abZ aq p1;replace p2:=abZ aq p2;clear aq p0
     cases qr:Np.dO sn.data.toList with
     | true=>
      have HX:Hid (r=false):=jq (HF.out λh=>by have:=h.wild;rw[<-aS.out,qr] at this;cases this);clear qr;go_wp2_with fail;go_ret;exact⟨ae HX.out.symm,HB.out.trans (bJ.out.acQ)⟩
     | false=>
      have EK:=jq qr;clear qr;by_cases rx:x.owner<0
      ·have HX:Hid (r=false):=jq (HF.out λh=>by have:=h.owner;omega);go_wp2_with fail;go_ret;exact⟨ae HX.out.symm,HB.out.trans (bJ.out.acQ)⟩
      ·have g1:decide (x.owner<0)=false:=by simpa using rx
       by_cases gh:32<=x.owner
       ·have g2:decide (32<=x.owner)=true:=by simpa using gh
        have HX:Hid (r=false):=jq (HF.out λh=>by have:=h.owner;omega);go_wp2_with fail;go_ret;exact⟨ae HX.out.symm,HB.out.trans (bJ.out.acQ)⟩
       ·have g2:decide (32<=x.owner)=false:=by simpa using gh
        have gq:Hid (0<=x.owner/\x.owner<=31):=jq (by omega);clear rx gh
        cases th:Np.km x.addr with
        | false=>
         have HX:Hid (r=false):=jq (HF.out λh=>by have:=h.addr;simp[Np.km] at th;omega);have HC:Hid (∀ w,Calls prog 247 #[.int .i64 x.addr] w λe w'=>e = .returned (.bool false)/\w=w'):=jq (λw=>by rw[<-th];exact Ht _ _);clear th;go_wp2_with (go_at_call 247;refine (HC.out _).mono ?_;rintro e w' ⟨rfl,rfl⟩);go_ret;exact⟨ae HX.out.symm,HB.out.trans (bJ.out.acQ)⟩
        | true=>
         have bk:Hid (Np.HostOk x):=jq ⟨by rw[<-aS.out];exact f8.out,by rw[<-aS.out];exact EK.out,by simp[Np.km] at th;exact th,gq.out⟩;have HC:Hid (∀ w,Calls prog 247 #[.int .i64 x.addr] w λe w'=>e = .returned (.bool true)/\w=w'):=jq (λw=>by rw[<-th];exact Ht _ _);have dK:Hid (lR w.heap.size ((l.take k).map λh=>(h.addr,Value.bool true)) w4):=jq (HM.out.keep bJ.out bO);obtain⟨Co,Ga⟩:=JH x.addr (l.take k);have js:=YA (P:=prog) w4 298 3 4 underlying298 underlying3 w.heap.size _ dK.out x.addr (.bool false) (by kernel_rfl);rw[Co] at js;clear th Co;by_cases hin:x.addr∈(l.take k).map (·.addr)
         ·have HX:Hid (r=false):=jq (sB.out hin);rw[uQ hin] at js;clear hin Ga;go_wp2_with (go_at_call 247;refine (HC.out _).mono ?_;rintro e w' ⟨rfl,rfl⟩);go_ret;exact⟨ae HX.out.symm,HB.out.trans (bJ.out.acQ)⟩
         ·have la:=jq (Ga hin);have Ej:Hid (((l.take (k+1)).map (·.addr)).Nodup):=jq (by
           rw[HT.out,List.map_append,List.nodup_append];refine⟨xe.out,by simp,λy hy z hz e=>?_⟩;simp at hz;exact hin (by rw[<-hz,<-e];exact hy))
          rw[tQ hin] at js;clear hin Ga;go_wp2_with (first
           | (go_at_call 247;refine (HC.out _).mono ?_;rintro e w' ⟨rfl,rfl⟩)
           | (at_mapUpdate;refine Z5 _ rfl _ _ _ 298 rfl 3 4 underlying298 underlying3 w.heap.size _ rfl dK.out x.addr rfl (.bool true) rfl la.out ?_;intro w5 lD kG;have H5:=jq (And.intro lD kG);clear lD kG))
          go_roundw
          case rel=>exact⟨k+1,by omega,by go_num,jq ((HB.out.trans (bJ.out.acQ)).trans (H5.out.2.below (bQ _))),by rw[H5.out.2.size];omega,jq (by rw[HT.out,List.map_append];exact H5.out.1),jq (HN.out bk.out),Ej⟩
          case measure=>simp[intOf] <;> omega
   ·go_wp2_with fail;go_ret;refine⟨ae ?_,HB.out⟩;rw[<-HR.out];refine (Np.bS ⟨DA.out,λx hx=>?_,?_⟩).symm
    ·obtain⟨j,hj,rfl⟩:=nQ.1 hx;exact HA.out j _ (by omega) (aQ hj)
    ·have:=xe.out
     rwa [kQ (by omega)] at this
 ·have HX:Hid (r=false):=jq (by rw[<-HR.out];exact Np.aK λq=>td q.few);have SX:64<l.length:=by omega
  clear td;go_enter func180,ntmps180;go_wp2_with fail;go_ret;exact⟨ae HX.out.symm,vQ _ _⟩
section
variable {α:Type}
def Jw(R:afQ α)(B:Nat)(w:World)(f:FuncId)(cap:Array Value)(p:α->Bool)(xs:List α):Prop:=
 ∀ (W:World) (x:α) (e0:Value),x∈xs->Below B w W->B<=W.heap.size->R W B [e0] x->Calls prog f (#[e0]++cap) W λe w'=>e = .returned (.bool (p x))/\Below W.heap.size W w'
theorem VD{R:afQ α}(hK:cL R)(f:FuncId)(eg:∀ args w,(callFunc f args).run prog w = .ok (.enter f args) w)(cap:Array Value)(p:α->Bool)(v:Value)(xs:List α)(w:World)(B:Nat)(hB:B<=w.heap.size)(h:SlR R 1 w B v xs)
 (hp:Jw R B w f cap p xs) :
 Calls prog 319 #[v,.func (.func f) #[] cap] w (aeJ w.heap.size w (.int .i64 (kn p xs))):=by
 have H:=jq h;have HP:=jq hp;obtain⟨A,c,rfl,aW,bh,eO⟩:=h;clear eO hp;go_enter func319,ntmps319;go_wp2_with fail;go_loopw [8] (λi wr=>∃ k:Nat,k<=xs.length/\i = .int .i64 k/\Below w.heap.size w wr/\Hid (∀ x∈xs.take k,p x=false)) (λi _=>xs.length - (intOf i).toNat)
 case atStart=>exact⟨0,jQ _,rfl,vQ _ _,jq (by simp)⟩
 case round=>
  obtain⟨k,hk,rfl,hb,HA⟩:=hrel;by_cases aa:k<xs.length
  ·have bp:=hb.mono hB;obtain⟨A',c',hA',_,_,aC⟩:=H.out.keep hK bp
   cases hA'
   obtain⟨b,o,e,rfl,bq,hlen,hce,hR⟩:=aC k _ (aQ aa)
   match e,hlen with
   | [e0],_=>
   have h0:wr.cell? ⟨b,o+k,none⟩=some e0:=by have:=hce 0 _ rfl;simpa using this
   have bE:=HP.out wr xs[k] e0 (List.getElem_mem aa) bp (by have:=hb.size;omega) hR;have HC:=jq bE;have dp:=jq hb;clear aC hce hR bE bp hb;go_wp2_with (fail);refine HC.out.mono ?_;rintro e w2 ⟨rfl,ab⟩;have ai:=jq ab;clear ab;by_cases aU:p xs[k]=true
   ·have HX:=jq aU;go_wp2_with (fail);go_ret;exact⟨gE (E6 p xs k aa HA.out HX.out).symm,dp.out.trans (ai.out.mono dp.out.size)⟩
   ·have vD:p xs[k]=false:=by simpa using aU
    have HX:=jq vD;clear aU;go_wp2_with (fail);go_roundw
    case rel=>
     refine⟨k+1,by omega,by go_num,dp.out.trans (ai.out.mono dp.out.size),jq ?_⟩;rw[fQ aa];intro x hx;rcases List.mem_append.1 hx with h | h
     ·exact HA.out x h
     ·simp at h;subst h;exact HX.out
    case measure=>simp[intOf] <;> omega
  ·go_wp2_with fail;go_ret;exact⟨gE (E9 p xs (by have:=HA.out;rwa [kQ (by omega)] at this)).symm,hb⟩
theorem RL{R:afQ α}(hK:cL R)(f:FuncId)(eg:∀ args w,(callFunc f args).run prog w = .ok (.enter f args) w)(cap:Array Value)(p:α->Bool)(v:Value)(xs:List α)(w:World)(B:Nat)(hB:B<=w.heap.size)(h:SlR R 1 w B v xs)
 (hp:Jw R B w f cap p xs) :
 Calls prog 248 #[v,.func (.func f) #[] cap] w (aeJ w.heap.size w (.bool (xs.any p))):=by
 have H:=jq h;have HP:=jq hp;have HE:=jq eg;clear h hp eg;go_enter func248,ntmps248;go_wp2_with (go_at_call 319;refine (VD hK f HE.out cap p v xs w B hB H.out HP.out).mono ?_;rintro e w' ⟨rfl,hb⟩);go_ret;exact⟨ae (E8 p xs),hb⟩
end
theorem Yp(n:Int)(w:World) :
 Calls prog 249 #[.int .i64 n] w (aeJ w.heap.size w (.bool (!Np.km n))):=by
 obtain⟨q,hq⟩:=abK (Np.km n);have HC:Hid (∀ w,Calls prog 247 #[.int .i64 n] w λe w'=>e = .returned (.bool q)/\w=w'):=jq (λw=>by rw[<-hq];exact Ht _ _);rw[hq];clear hq
 cases q
 all_goals
  go_enter func249,ntmps249;go_wp2_with (go_at_call 247;refine (HC.out _).mono ?_;rintro e w' ⟨rfl,rfl⟩);go_ret;exact⟨rfl,vQ _ _⟩
theorem ZD(s:ByteArray)(hs:s.size<=140737488355328)(ty life:Int)(dv:Value)(d:List Np.Datum)(hv:Value)(hints:List Int)(w:World)(hR:f9 w w.heap.size)(hd:SlR bW 3 w w.heap.size dv d)(hh:SlR gL 1 w w.heap.size hv hints) :
 Calls prog 182 #[.agg #[.string s,.int .i64 ty,.int .i64 life,dv],hv] w (aeJ w.heap.size w (.bool (Np.yes (Np.VRoot ⟨s.data.toList,ty,life,d⟩ hints)))):=by
 obtain⟨r,hr⟩:=abK (Np.yes (Np.VRoot ⟨s.data.toList,ty,life,d⟩ hints));rw[hr];have HR:=jq hr;have HD:=jq hd;have HH:=jq hh;have ii:=jq hR;obtain⟨A,c,rfl,aW,bh⟩:=aj hd;obtain⟨A2,c2,rfl,db,cY⟩:=aj hh;clear hr hd hh hR;have HW:Hid (∀ o,Below w.heap.size w (w.alloc o)):=jq (λo=>(vQ _ w).alloc (bQ _) _);go_enter func182,ntmps182;go_wp2_with fail;refine (GY s hs ty life _ d _ ((ii.out.keep (HW.out _)).more (by simp)) (HD.out.later cu cS (HW.out _))).mono ?_;rintro e w1 ⟨rfl,an⟩;have bg:w.heap.size<w1.heap.size:=by have:=an.size;simp at this;omega
 have c0:w1.cell? ⟨w.heap.size,0,none⟩=some (.string s):=by rw[an.cell (by simp)];go_simp
 have c1:w1.cell? ⟨w.heap.size,1,none⟩=some (.int .i64 ty):=by rw[an.cell (by simp)];go_simp
 have ar:=jq ((HW.out _).trans (an.mono (by simp)));clear an;obtain⟨n,hn⟩:=abK hints.length;have HN:=jq hn;rw[hn] at HH db cY |-;clear hn
 cases eE:Np.da ⟨s.data.toList,ty,life,d⟩ with
 | false=>
  have HX:Hid (r=false):=jq (by rw[<-HR.out];exact Np.aK λq=>by have:=q.set;rw[eE] at this;cases this);clear eE;go_wp2_with fail;go_ret;exact⟨ae HX.out.symm,ar.out⟩
 | true=>
  have je:=jq eE;clear eE;by_cases h6:ty=6
  ·by_cases l9:s.data.toList = [46]
   ·have FW:(!s.toList == [46])=false:=by rw[dQ,l9];rfl
    have x8:(ty != 6)=false:=by simpa using h6
    have DV:=jq l9;have H6:=jq h6;clear l9 h6;by_cases bG:n<1
    ·have HX:Hid (r=false):=jq (by rw[<-HR.out];exact Np.aK λq=>by have:=q.few;rw[HN.out] at this;omega);have g1:decide ((n:Int)<1)=true:=by simp;omega
     clear bG;go_wp2_with fail;go_ret;exact⟨ae HX.out.symm,ar.out⟩
    ·have g1:decide ((n:Int)<1)=false:=by simp;omega
     by_cases vu:8<n
     ·have HX:Hid (r=false):=jq (by rw[<-HR.out];exact Np.aK λq=>by have:=q.few;rw[HN.out] at this;omega);have g2:decide ((8:Int)<(n:Int))=true:=by simp;omega
      clear bG vu;go_wp2_with fail;go_ret;exact⟨ae HX.out.symm,ar.out⟩
     ·have g2:decide ((8:Int)<(n:Int))=false:=by simp;omega
      have fF:Hid (1<=n/\n<=8):=jq (by omega);clear bG vu;have eg:∀ args w,(callFunc 249 args).run prog w = .ok (.enter 249 args) w:=enters_of func249 (by kernel_rfl) rfl;have Py:=jq eg;clear eg;go_wp2_with fail;have dY:=HH.out.keep kM ar.out;rw[<-HN.out] at dY |-;refine (RL (R:=gL) kM 249 Py.out #[] (λn=>!Np.km n) _ hints w1 w.heap.size (by omega) dY (λW x e0 _ _ _ hx=>by
       have hx : [e0] = [Value.int .i64 x]:=hx
       cases hx
       exact Yp x W)).mono ?_
      rintro e w2 ⟨rfl,ab⟩;have ai:=abJ ar ab;clear ab;have HQ:Hid ((hints.any λn=>!Np.km n)=!r):=jq (by
       rw[<-HR.out]
       cases ha:hints.any λn=>!Np.km n with
       | true=>
        obtain⟨x,hx,hb⟩:=List.any_eq_true.1 ha;rw[Np.aK λq=>?_];rfl
        have:=q.each x hx
        simp[Np.km] at hb;omega
       | false=>
        rw[Np.bS];rfl;refine⟨je.out,H6.out,DV.out,by have:=fF.out;rw[HN.out];exact this,λx hx=>?_⟩
        have:=List.any_eq_false.1 ha x hx
        simpa [Np.km] using this)
      rw[HQ.out];clear HQ
      cases r
      all_goals
       go_wp2_with fail;go_ret;exact⟨rfl,ai.out⟩
   ·have HX:Hid (r=false):=jq (by rw[<-HR.out];exact Np.aK λq=>l9 q.name);have FW:(!s.toList == [46])=true:=by rw[dQ];simpa using l9
    have x8:(ty != 6)=false:=by simpa using h6
    clear l9 h6;go_wp2_with fail;go_ret;exact⟨ae HX.out.symm,ar.out⟩
  ·have HX:Hid (r=false):=jq (by rw[<-HR.out];exact Np.aK λq=>h6 q.type);have x8:(ty != 6)=true:=by simpa using h6
   clear h6;go_wp2_with fail;go_ret;exact⟨ae HX.out.symm,ar.out⟩
theorem Yd(s:ByteArray)(hs:s.size<=140737488355328)(ty life:Int)(dv:Value)(d:List Np.Datum)(hv:Value)(hints:List Int)(w:World)(hd:SlR bW 3 w w.heap.size dv d)(hh:SlR gL 1 w w.heap.size hv hints) :
 Calls prog 88 #[.agg #[.string s,.int .i64 ty,.int .i64 life,dv],hv] w (aeJ w.heap.size w (.bool (Np.yes (Np.VRoot ⟨s.data.toList,ty,life,d⟩ hints)))):=by
 obtain⟨r,hr⟩:=abK (Np.yes (Np.VRoot ⟨s.data.toList,ty,life,d⟩ hints));rw[hr];have HR:=jq hr;have HD:=jq hd;have HH:=jq hh;obtain⟨A,c,rfl,aW,bh⟩:=aj hd;obtain⟨A2,c2,rfl,db,cY⟩:=aj hh;clear hr hd hh;have HW:Hid (∀ o,Below w.heap.size w (w.alloc o)):=jq (λo=>(vQ _ w).alloc (bQ _) _);go_enter func88,ntmps88;go_wp2_with fail;obtain⟨w1,ak⟩:=abK (w.alloc (.cells #[.string s,.int .i64 ty,.int .i64 life,.slice A d.length c] 26));have c0:w1.cell? ⟨w.heap.size,0,none⟩=some (.string s):=by rw[<-ak];simp[go_sem]
 have c1:w1.cell? ⟨w.heap.size,1,none⟩=some (.int .i64 ty):=by rw[<-ak];simp[go_sem]
 have c2':w1.cell? ⟨w.heap.size,2,none⟩=some (.int .i64 life):=by rw[<-ak];simp[go_sem]
 have c3:w1.cell? ⟨w.heap.size,3,none⟩=some (.slice A d.length c):=by rw[<-ak];simp[go_sem]
 have bg:w1.heap.size=w.heap.size+1:=by rw[<-ak];simp
 have ar:Hid (Below w.heap.size w w1):=jq (by rw[<-ak];exact HW.out _);rw[ak];clear ak;obtain⟨n,hn⟩:=abK hints.length;have HN:=jq hn;rw[hn] at HH db cY |-;clear hn;go_loopw [5] (λi wr=>∃ k:Nat,k<=n/\i = .int .i64 k/\wr=w1/\Hid (∀ j x,j<k->hints[j]?=some x->1<=x/\x<=1000000)) (λi _=>n - (intOf i).toNat)
 case atStart=>exact⟨0,jQ _,rfl,rfl,jq (λj x hj=>by omega)⟩
 case round=>
  obtain⟨k,hk,rfl,rfl,HA⟩:=hrel;by_cases aa:k<n
  ·obtain⟨x,ac⟩:∃ x,hints[k]?=some x:=⟨_,aQ (by rw[HN.out];exact aa)⟩;obtain⟨b,o,rfl,bp,f0⟩:=VG (HH.out.keep kM ar.out) ac;have cJ:Hid (1<=x/\x<=1000000->∀ j y,j<k+1->hints[j]?=some y->1<=y/\y<=1000000):=jq (λh j y hj hy=>by
    by_cases e:j=k
    ·subst e;rw[ac] at hy;cases hy;exact h
    ·exact HA.out j y (by omega) hy)
   have HF:Hid (¬ (1<=x/\x<=1000000)->r=false):=jq (λh=>by rw[<-HR.out];exact Np.aK λq=>h (q.each x (gQ ac)));have bL:(0:Int)<=(k:Int):=by omega
   have bY:(k:Int)<(n:Int):=by omega
   clear ac;by_cases h1:x<1
   ·have HX:=jq (HF.out (by omega));have g1:decide (x<1)=true:=by simpa using h1
    clear h1;go_wp2_with fail;go_ret;exact⟨ae HX.out.symm,ar.out⟩
   ·have g1:decide (x<1)=false:=by simpa using h1
    by_cases h2:1000000<x
    ·have HX:=jq (HF.out (by omega));have g2:decide (1000000<x)=true:=by simpa using h2
     clear h1 h2;go_wp2_with fail;go_ret;exact⟨ae HX.out.symm,ar.out⟩
    ·have HX:=jq (cJ.out (by omega));have g2:decide (1000000<x)=false:=by simpa using h2
     clear h1 h2;go_wp2_with fail;go_roundw
     case rel=>exact⟨k+1,by omega,by go_num,by first | rfl | trivial,HX⟩
     case measure=>simp[intOf] <;> omega
  ·have oe:Hid (∀ x∈hints,1<=x/\x<=1000000):=jq (λx hx=>by
    obtain⟨j,hj,rfl⟩:=nQ.1 hx;exact HA.out j _ (by have:=HN.out;omega) (aQ hj))
   go_wp2_with fail;refine (Ns s hs ty life _ d _ (HD.out.later cu cS ar.out)).mono ?_;rintro e w2 ⟨rfl,ab⟩;have aO:=ab.size;replace c0:=abZ ab c0;replace c1:=abZ ab c1;have ai:=abJ ar ab;clear ab c2' c3
   cases eE:Np.da ⟨s.data.toList,ty,life,d⟩ with
   | false=>
    have HX:Hid (r=false):=jq (by rw[<-HR.out];exact Np.aK λq=>by have:=q.set;rw[eE] at this;cases this);clear eE;go_wp2_with fail;go_ret;exact⟨ae HX.out.symm,ai.out⟩
   | true=>
    have je:=jq eE;clear eE;by_cases h6:ty=6
    ·by_cases l9:s.data.toList = [46]
     ·have FW:(s.toList == [46])=true:=by rw[dQ,l9];rfl
      have x8:(ty == 6)=true:=by simpa using h6
      have DV:=jq l9;have H6:=jq h6;clear l9 h6;by_cases bG:1<=n
      ·have g1:decide ((1:Int)<=(n:Int))=true:=by simp;omega
       by_cases vu:n<=8
       ·have HX:Hid (r=true):=jq (by rw[<-HR.out];exact Np.bS ⟨je.out,H6.out,DV.out,by rw[HN.out];exact⟨bG,vu⟩,oe.out⟩);have g2:decide ((n:Int)<=8)=true:=by simp;omega
        clear bG vu;go_wp2_with fail;go_ret;exact⟨ae HX.out.symm,ai.out⟩
       ·have HX:Hid (r=false):=jq (by rw[<-HR.out];exact Np.aK λq=>by have:=q.few;rw[HN.out] at this;omega);have g2:decide ((n:Int)<=8)=false:=by simp;omega
        clear bG vu;go_wp2_with fail;go_ret;exact⟨ae HX.out.symm,ai.out⟩
      ·have HX:Hid (r=false):=jq (by rw[<-HR.out];exact Np.aK λq=>by have:=q.few;rw[HN.out] at this;omega);have g1:decide ((1:Int)<=(n:Int))=false:=by simp;omega
       clear bG;go_wp2_with fail;go_ret;exact⟨ae HX.out.symm,ai.out⟩
     ·have HX:Hid (r=false):=jq (by rw[<-HR.out];exact Np.aK λq=>l9 q.name);have FW:(s.toList == [46])=false:=by rw[dQ];simpa using l9
      have x8:(ty == 6)=true:=by simpa using h6
      clear l9 h6;go_wp2_with fail;go_ret;exact⟨ae HX.out.symm,ai.out⟩
    ·have HX:Hid (r=false):=jq (by rw[<-HR.out];exact Np.aK λq=>h6 q.type);have x8:(ty == 6)=false:=by simpa using h6
     clear h6;go_wp2_with fail;go_ret;exact⟨ae HX.out.symm,ai.out⟩
def Np.xL(l:List Np.Signed)(k:Nat)(x:Np.Signed):Prop:=∀ p,0<k->l[k - 1]?=some p->p.set.name=x.set.name->x.set.type≠3/\(Np.mq (l.take (k+1))=x.set.name->x.set.type=8)
def Np.xM(l:List Np.Signed):Prop:=∀ k x,l[k]?=some x->Np.xL l k x
theorem Wd{l:List Np.Signed}{k:Nat}{x:Np.Signed}(hx:l[k]?=some x):Np.mq (l.take (k+1))=if x.set.type=3 then x.set.name else Np.mq (l.take k):=by
 obtain⟨hk,rfl⟩:=cQ.1 hx;rw[fQ hk,Np.GN]
theorem Yi(a:ByteArray)(v:Value)(l:List Np.Signed)(bn:l.length<=20000)(hv:∀ x∈l,x.set.name≠[])(w:World)(hd:SlR cA 5 w w.heap.size v l) :
 Calls prog 161 #[.agg #[.string a,v]] w (aeJ w.heap.size w (.bool (Np.yes (Np.xM l)))):=by
 obtain⟨r,hr⟩:=abK (Np.yes (Np.xM l));rw[hr];have HR:=jq hr;have HD:=jq hd;have HV:=jq hv;obtain⟨A,c,rfl,aW,bh⟩:=aj hd;clear hr hd hv;have HW:Hid (∀ o,Below w.heap.size w (w.alloc o)):=jq (λo=>(vQ _ w).alloc (bQ _) _);go_enter func161,ntmps161;go_wp2_with fail;obtain⟨w1,ak⟩:=abK (w.alloc (.cells #[.string a,.slice A l.length c] 44));have c1:w1.cell? ⟨w.heap.size,1,none⟩=some (.slice A l.length c):=by rw[<-ak];simp[go_sem]
 have bg:w1.heap.size=w.heap.size+1:=by rw[<-ak];simp
 have ar:Hid (Below w.heap.size w w1):=jq (by rw[<-ak];exact HW.out _);rw[ak];clear ak;go_loopw [3,4] (λva i wr=>∃ (k:Nat) (sa:ByteArray),k<=l.length/\i = .int .i64 k/\va = .string sa/\Hid (sa.data.toList=Np.mq (l.take k))/\Hid (Below w1.heap.size w1 wr)/\Hid (∀ j x,j<k->l[j]?=some x->Np.xL l j x)) (λ_ i _=>l.length - (intOf i).toNat)
 case atStart=>exact⟨0,⟨#[]⟩,jQ _,rfl,rfl,jq rfl,jq (vQ _ _),jq (λj g hj=>by omega)⟩
 case round=>
  obtain⟨k,sa,hk,rfl,rfl,sO,HB,HA⟩:=hrel;have al:=HB.out.size;have d1:wr.cell? ⟨w.heap.size,1,none⟩=some (.slice A l.length c):=abZ HB.out c1;have az:=abJ ar HB.out;have bO:w.heap.size<wr.heap.size:=by omega
  by_cases aa:k<l.length
  ·obtain⟨x,ac⟩:∃ x,l[k]?=some x:=⟨_,aQ aa⟩;obtain⟨b,o,c',sn,dv,sv,hA,bp,_,aw,cE,aR,aN,f0,f1,f2,f3,f4⟩:=fk (HD.out.keep bI az.out) ac
   cases hA
   have HX:=jq ac;have aS:=jq aw;have ic:=jq (Wd ac);have hne:(sn.toList == [])=false:=by rw[dQ,aw];simpa using HV.out x (gQ ac)
   have cJ:Hid (Np.xL l k x->∀ j y,j<k+1->l[j]?=some y->Np.xL l j y):=jq (λh j y hj hy=>by
    by_cases e:j=k
    ·subst e;rw[ac] at hy;cases hy;exact h
    ·exact HA.out j y (by omega) hy)
   have HF:Hid (¬ Np.xL l k x->r=false):=jq (λh=>by rw[<-HR.out];exact Np.aK λq=>h (q k x ac));have bL:(0:Int)<=(k:Int):=by omega
   have bY:(k:Int)<(l.length:Int):=by omega
   have an:b<wr.heap.size:=by omega
   have FJ:∃ q:Bool,Hid (q=true↔∃ p,0<k/\l[k - 1]?=some p/\p.set.name=x.set.name)/\((k=0/\q=false)\/∃ (m:Nat) (sy:ByteArray),k=m+1/\wr.cell? ⟨b,o+m * 5,none⟩=some (.string sy)/\(sy.toList == sn.toList)=q):=by
    by_cases gU:k=0
    ·exact⟨false,jq ⟨λh=>(by cases h),λ⟨p,h,_⟩=>(by omega)⟩,.inl ⟨gU,rfl⟩⟩
    ·obtain⟨m,rfl⟩:∃ m,k=m+1:=⟨k - 1,by omega⟩;obtain⟨y,hy⟩:∃ y,l[m]?=some y:=⟨_,aQ (by omega)⟩;obtain⟨b9,o9,c9,sy,dv9,sv9,hA,_,_,ju,_,_,_,q0,q1,_⟩:=fk (HD.out.keep bI az.out) hy;simp only[Value.slice.injEq,Option.some.injEq,Addr.mk.injEq,and_true,true_and] at hA;obtain⟨⟨rfl,rfl⟩,-⟩:=hA;refine⟨_,jq ?_,.inr ⟨m,sy,rfl,q0,rfl⟩⟩;rw[dQ,dQ,ju,aS.out,beq_iff_eq];constructor
     ·intro h;exact⟨y,by omega,by simpa using hy,h⟩
     ·rintro⟨p,_,hp,h⟩;rw[show m+1 - 1=m by omega,hy] at hp
      cases hp;exact h
   obtain⟨qb,pF,zm⟩:=FJ;obtain⟨ty,eD⟩:=abK x.set.type;have eJ:=jq eD;rw[eD] at f1;clear ac aw aR aN eD f2 f3 f4;have fJ:∃ m:Nat,(decide ((0:Int)<(k:Int))=false/\decide (0<k)=false/\qb=false)\/(decide ((0:Int)<(k:Int))=true/\decide (0<k)=true/\IntKind.i64.wrap ((k:Int) - 1)=(m:Int)/\(k:Int) - 1=(m:Int)/\(0:Int)<=(m:Int)/\(m:Int)<(l.length:Int)/\∃ sy:ByteArray,wr.cell? ⟨b,o+m * 5,none⟩=some (.string sy)/\(sy.toList == sn.toList)=qb):=by
    rcases zm with ⟨gU,h⟩ | ⟨m,sy,lB,g0,ql⟩
    ·exact⟨0,.inl ⟨by simp;omega,by simp;omega,h⟩⟩
    ·exact⟨m,.inr ⟨by simp;omega,by simp;omega,by rw[IntWalk.i64_in _ (by omega)];omega,by omega,by omega,by omega,sy,g0,ql⟩⟩
   clear zm;obtain⟨m,fJ⟩:=fJ;by_cases h3:ty=3
   ·subst h3;have rF:Hid (sn.data.toList=Np.mq (l.take (k+1))):=jq (by rw[ic.out,Qb eJ.out,aS.out]);rcases fJ with ⟨iu,gV,rfl⟩ | ⟨iu,gV,Gy,CE,lw,p9,sy,g0,ql⟩
    ·have bk:=jq (cJ.out (λp h0 hp he=>by have:=pF.out.2 ⟨p,h0,hp,he⟩;cases this));go_wp2_with fail;go_quiet (fail);go_wp2_with fail;go_roundw
     case rel=>exact⟨k+1,sn,by omega,by go_num,rfl,rF,jq (below_drewN HB.out _),jq bk.out⟩
     case measure=>simp[intOf] <;> omega
    ·cases qb with
     | false=>
      have bk:=jq (cJ.out (λp h0 hp he=>by have:=pF.out.2 ⟨p,h0,hp,he⟩;cases this));go_wp2_with fail;go_quiet (fail);go_wp2_with fail;go_roundw
      case rel=>exact⟨k+1,sn,by omega,by go_num,rfl,rF,jq (below_drewN HB.out _),jq bk.out⟩
      case measure=>simp[intOf] <;> omega
     | true=>
      have qM:Hid (r=false):=jq (HF.out λh=>by
       obtain⟨p,h0,hp,he⟩:=pF.out.1 (by simp);exact (h p h0 hp he).1 eJ.out)
      go_wp2_with fail;go_quiet (fail);obtain⟨w2,ag⟩:=abK (wr.drewN nq);rw[ag];have ab:Below wr.heap.size wr w2:=by rw[<-ag];exact below_drewN (vQ _ _) _
      have t1:w2.cell? ⟨w.heap.size,1,none⟩=some (.slice (some ⟨b,o,none⟩) l.length c):=abZ ab d1;have t2:w2.cell? ⟨b,o+k * 5,none⟩=some (.string sn):=abZ ab f0;have em:=abJ az ab;clear ab ag;go_wp2_with fail;go_ret;exact⟨ae qM.out.symm,em.out⟩
   ·have h3':(ty == 3)=false:=by simpa using h3
    have h3'':(ty != 3)=true:=by simpa using h3
    have rF:Hid (sa.data.toList=Np.mq (l.take (k+1))):=jq (by rw[ic.out,Qc (by rw[eJ.out];exact h3)];exact sO.out);rcases fJ with ⟨iu,gV,rfl⟩ | ⟨iu,gV,Gy,CE,lw,p9,sy,g0,ql⟩
    ·have bk:=jq (cJ.out (λp h0 hp he=>by have:=pF.out.2 ⟨p,h0,hp,he⟩;cases this));go_wp2_with fail;go_quiet (fail);go_wp2_with fail;go_roundw
     case rel=>exact⟨k+1,sa,by omega,by go_num,rfl,rF,jq (below_drewN HB.out _),jq bk.out⟩
     case measure=>simp[intOf] <;> omega
    ·cases qb with
     | false=>
      have bk:=jq (cJ.out (λp h0 hp he=>by have:=pF.out.2 ⟨p,h0,hp,he⟩;cases this));go_wp2_with fail;go_quiet (fail);go_wp2_with fail;go_roundw
      case rel=>exact⟨k+1,sa,by omega,by go_num,rfl,rF,jq (below_drewN HB.out _),jq bk.out⟩
      case measure=>simp[intOf] <;> omega
     | true=>
      obtain⟨qe,Gi⟩:=abK (sn.toList == sa.toList);have Ja:Hid (qe=true↔Np.mq (l.take (k+1))=x.set.name):=jq (by rw[<-Gi,dQ,dQ,aS.out,rF.out,beq_iff_eq];exact eq_comm);obtain⟨q8,tN⟩:=abK (ty != 8);have Bi:Hid (q8=true↔x.set.type≠8):=jq (by rw[<-tN,eJ.out];simp);have xz:Hid (x.set.type≠3):=jq (by rw[eJ.out];exact h3);clear h3;go_wp2_with fail;go_quiet (fail);obtain⟨w2,ag⟩:=abK (wr.drewN nq);rw[ag];have ab:Below wr.heap.size wr w2:=by rw[<-ag];exact below_drewN (vQ _ _) _
      have t1:w2.cell? ⟨w.heap.size,1,none⟩=some (.slice (some ⟨b,o,none⟩) l.length c):=abZ ab d1;have t2:w2.cell? ⟨b,o+k * 5,none⟩=some (.string sn):=abZ ab f0;have em:=abJ az ab;have Jn:=jq (HB.out.trans (ab.mono HB.out.size));clear ab ag
      cases qe with
      | false=>
       have bk:=jq (cJ.out (λp h0 hp he=>⟨xz.out,λhl=>by have:=Ja.out.2 hl;cases this⟩));go_wp2_with fail;go_roundw
       case rel=>exact⟨k+1,sa,by omega,by go_num,rfl,rF,jq Jn.out,jq bk.out⟩
       case measure=>simp[intOf] <;> omega
      | true=>
       cases q8 with
       | false=>
        have bk:=jq (cJ.out (λp h0 hp he=>⟨xz.out,λ_=>Decidable.not_not.1 λh8=>by have:=Bi.out.2 h8;cases this⟩));go_wp2_with fail;go_roundw
        case rel=>exact⟨k+1,sa,by omega,by go_num,rfl,rF,jq Jn.out,jq bk.out⟩
        case measure=>simp[intOf] <;> omega
       | true=>
        have qM:Hid (r=false):=jq (HF.out λh=>by
         obtain⟨p,h0,hp,he⟩:=pF.out.1 (by simp);exact Bi.out.1 (by simp) ((h p h0 hp he).2 (Ja.out.1 (by simp))))
        go_wp2_with fail;go_ret;exact⟨ae qM.out.symm,em.out⟩
  ·go_wp2_with fail;go_ret;refine⟨ae ?_,az.out⟩;rw[<-HR.out];exact (Np.bS λi x hx=>HA.out i x (by have:=(cQ.1 hx).1;omega) hx).symm
theorem WH{x:List UInt8}(h:Np.aD x=true):x≠[]:=by
 rintro rfl;revert h;decide
def QP(w1:World)(apex:List UInt8)(l:List Np.Signed)(i:Value)(wr:World):Prop:=
 ∃ k:Nat,k<=l.length/\i = .int .i64 k/\Below w1.heap.size w1 wr/\Hid (∀ j x,j<k->l[j]?=some x->Np.da x.set=true)/\Hid (Np.iL apex none l=Np.iL apex (nZ l k) (l.drop k))
theorem Yb(a:ByteArray)(ha:a.size<=140737488355328)(v:Value)(l:List Np.Signed)(bn:l.length<=20000)(w:World)(hd:SlR cA 5 w w.heap.size v l) :
 Calls prog 159 #[.agg #[.string a,v]] w (aeJ w.heap.size w (.bool (Np.ei ⟨a.data.toList,l⟩))):=by
 have HD:=jq hd;obtain⟨A,c,rfl,aW,bh,-⟩:=hd;have HW:Hid (∀ o,Below w.heap.size w (w.alloc o)):=jq (λo=>(vQ _ w).alloc (bQ _) _);go_enter func159,ntmps159;go_wp2_with fail;refine (vS _ ha _).mono ?_;rintro e w1 ⟨rfl,hb⟩;have c0:w1.cell? ⟨w.heap.size,0,none⟩=some (.string a):=by rw[hb.cell (by simp)];go_simp
 have c1:w1.cell? ⟨w.heap.size,1,none⟩=some (.slice A l.length c):=by rw[hb.cell (by simp)];go_simp
 have bU:w.heap.size<w1.heap.size:=by have:=hb.size;simp at this;omega
 have ar:=jq ((HW.out _).trans (hb.mono (by simp)));clear hb
 cases mi:Np.aD a.data.toList with
 | false=>
  have HF:Hid (Np.ei ⟨a.data.toList,l⟩=false):=jq (by unfold Np.ei;rw[mi];rfl);clear mi;go_wp2_with fail;go_ret;exact⟨ae HF.out.symm,ar.out⟩
 | true=>
  have uC:=jq mi;have haz:=vM mi;clear mi;go_wp2_with fail;refine (Nu a uC.out _).mono ?_;rintro e w0 ⟨rfl,br⟩;have U3:=br.size;replace c0:w0.cell? ⟨w.heap.size,0,none⟩=some (.string a):=(br.cell (by simpa using bU)).trans c0;replace c1:w0.cell? ⟨w.heap.size,1,none⟩=some (.slice A l.length c):=(br.cell (by simpa using bU)).trans c1;replace ar:=abJ ar br;replace bU:w.heap.size<w0.heap.size:=by omega
  clear br U3;obtain⟨w1,rfl⟩:=abX w0
  cases iw:Np.dO a.data.toList with
  | true=>
   have HF:Hid (Np.ei ⟨a.data.toList,l⟩=false):=jq (by unfold Np.ei;rw[iw];simp);go_wp2_with (go_at_call 225;refine (C4 a ha _).mono ?_;rintro e w' ⟨rfl,rfl⟩);go_ret;exact⟨ae HF.out.symm,ar.out⟩
  | false=>
   have HF:Hid (Np.ei ⟨a.data.toList,l⟩=Np.iL a.data.toList none l):=jq (by unfold Np.ei;rw[iw,uC.out];simp);go_wp2_with (go_at_call 225;refine (C4 a ha _).mono ?_;rintro e w' ⟨rfl,rfl⟩);clear iw;go_loopw [3] (λi wr=>QP w1 a.data.toList l i wr) (λi _=>l.length - (intOf i).toNat)
   case atStart=>exact⟨0,jQ _,rfl,vQ _ _,jq (λj x hj=>by omega),jq rfl⟩
   case round=>
    obtain⟨k,hk,rfl,aI,HV,HG⟩:=hrel;have Vf:=aI.size;have d0:wr.cell? ⟨w.heap.size,0,none⟩=some (.string a):=by rw[aI.cell (by simpa using bU)];exact c0
    have d1:wr.cell? ⟨w.heap.size,1,none⟩=some (.slice A l.length c):=by rw[aI.cell (by simpa using bU)];exact c1
    have bO:w.heap.size<wr.heap.size:=by omega
    by_cases aa:k<l.length
    ·have kr:Below w.heap.size w wr:=ar.out.trans (aI.acQ);have ac:=aQ aa;obtain⟨b,o,c',sn,dv,sv,hA,bp,_,aw,al,aR,aN,e0,e1,e2,e3,e4⟩:=fk (HD.out.keep bI kr) ac
     cases hA
     generalize hx:l[k]=x at *;clear hx;obtain⟨Ad,cd,rfl,FR,Uu⟩:=aj aR;have kV:=jq aR;have HX:=jq ac;have oM:(⟨sn.data.toList,x.set.type,x.set.life,x.set.data⟩:Np.DSet)=x.set:=by rw[aw]
     have Jf:=jq oM;have aS:=jq aw;have aL:=jq aI;have ul:=jq kr;have lL:=jq (HG.out.trans (OK ac (nZ l k)));clear aR aN ac aw aI kr c0 c1 oM e4;go_wp2_with fail;have fR:Below wr.heap.size wr (wr.alloc (.cells #[.string sn,.int .i64 x.set.type,.int .i64 x.set.life,.slice Ad x.set.data.length cd] 26)):=(vQ _ _).alloc (bQ _) _;have p0:=World.cell?_alloc_new wr #[.string sn,.int .i64 x.set.type,.int .i64 x.set.life,.slice Ad x.set.data.length cd] 26 0;have p1:=World.cell?_alloc_new wr #[.string sn,.int .i64 x.set.type,.int .i64 x.set.life,.slice Ad x.set.data.length cd] 26 1;have p2:=World.cell?_alloc_new wr #[.string sn,.int .i64 x.set.type,.int .i64 x.set.life,.slice Ad x.set.data.length cd] 26 2;have p3:=World.cell?_alloc_new wr #[.string sn,.int .i64 x.set.type,.int .i64 x.set.life,.slice Ad x.set.data.length cd] 26 3;have kH:wr.heap.size<(wr.alloc (.cells #[.string sn,.int .i64 x.set.type,.int .i64 x.set.life,.slice Ad x.set.data.length cd] 26)).heap.size:=by simp
     generalize wr.alloc (.cells #[.string sn,.int .i64 x.set.type,.int .i64 x.set.life,.slice Ad x.set.data.length cd] 26)=wa at fR p0 p1 p2 p3 kH |-;have eS:=jq fR;have so:=abJ ul fR;replace d0:wa.cell? ⟨w.heap.size,0,none⟩=some (.string a):=by rw[fR.cell (by simpa using bO)];exact d0
     replace d1:wa.cell? ⟨w.heap.size,1,none⟩=some (.slice (some ⟨b,o,none⟩) l.length c):=by rw[fR.cell (by simpa using bO)];exact d1
     replace p0:wa.cell? ⟨wr.heap.size,0,none⟩=some (.string sn):=p0;replace p1:wa.cell? ⟨wr.heap.size,1,none⟩=some (.int .i64 x.set.type):=p1;replace p2:wa.cell? ⟨wr.heap.size,2,none⟩=some (.int .i64 x.set.life):=p2;replace p3:wa.cell? ⟨wr.heap.size,3,none⟩=some (.slice Ad x.set.data.length cd):=p3;have nP:∀ (g:bi wa) (p:Addr),p.block<wa.heap.size->g.w.cell? p=wa.cell? p:=λg p h=>g.cell p h;have asJ:w.heap.size<wa.heap.size:=by omega
     have agJ:b<wa.heap.size:=by omega
     have Pu:=jq ((kV.out.keep cu (eS.out.acQ)).more cS (show w.heap.size<=wa.heap.size by omega));clear fR e0 e1 e2 e3;have bE:∀ g:bi wa,Calls prog 150 #[.agg #[.string sn,.int .i64 x.set.type,.int .i64 x.set.life,.slice Ad x.set.data.length cd]] g.w λe w'=>e = .returned (.bool (Np.da x.set))/\Below g.w.heap.size g.w w':=λg=>by
      rw[<-Jf.out];exact Ns sn al _ _ _ x.set.data _ (Pu.out.later cu cS g.below)
     cases eE:Np.da x.set with
     | false=>
      rw[eE] at bE;have jH:=jq bE;have je:=jq eE;clear bE eE;refine adX ?_
      repeat (go_big_quiet_step ((go_at_call 150;exact Calls.grow_of (jH.out _))))
      refine wpQuiet_nil ?_;rintro _ ⟨g,rfl⟩;go_wp2_with fail;go_ret;refine⟨ae ?_,so.out.trans (g.below.acQ)⟩;rw[HF.out,lL.out,je.out,Bool.and_false];rfl
     | true=>
      rw[eE] at bE;have jH:=jq bE;have je:=jq eE;have kb:Np.aD sn.data.toList=true:=by rw[aS.out];exact (Np.rY eE).1
      have f8:=jq kb;have UZ:=vM kb;have hin:∀ g:bi wa,Calls prog 222 #[.string sn,.string a] g.w λe w'=>e = .returned (.bool (Np.aZ sn.data.toList a.data.toList))/\Below g.w.heap.size g.w w':=λg=>by
       rw[<-Np.zM (WH uC.out)];exact C2 sn a (by omega) (by omega) _
      have yo:∀ j y,j<k+1->l[j]?=some y->Np.da y.set=true:=λj y hj hy=>by
       by_cases e:j=k
       ·subst e;rw[HX.out] at hy;cases hy;exact eE
       ·exact HV.out j y (by omega) hy
      have oe:=jq yo;clear bE eE kb yo
      cases eP:Np.aZ sn.data.toList a.data.toList with
      | false=>
       rw[eP] at hin;have kZ:=jq hin;have xB:=jq eP;clear eP hin;refine adX ?_
       repeat (go_big_quiet_step (first
        | (go_at_call 150;exact Calls.grow_of (jH.out _))
        | (go_at_call 222;exact Calls.grow_of (kZ.out _))))
       refine wpQuiet_nil ?_;rintro _ ⟨g,rfl⟩;go_wp2_with fail;go_ret;refine⟨ae ?_,so.out.trans (g.below.acQ)⟩;rw[HF.out,lL.out,<-aS.out,f8.out,xB.out];rfl
      | true=>
       rw[eP] at hin;have kZ:=jq hin;have rJ:Np.iL a.data.toList none l=((match nZ l k with | none=>true | some q=>decide (Np.fM q x.set<0))&&Np.iL a.data.toList (nZ l (k+1)) (l.drop (k+1))):=by
        rw[lL.out,<-aS.out,f8.out,eP,je.out,Dt HX.out];rfl
       have cP:=jq rJ;clear eP hin rJ;by_cases bL:k=0
       ·subst bL;refine adX ?_
        repeat (go_big_quiet_step (first
         | (go_at_call 150;exact Calls.grow_of (jH.out _))
         | (go_at_call 222;exact Calls.grow_of (kZ.out _))))
        refine wpQuiet_nil ?_;rintro _ ⟨g,rfl⟩;go_wp2_with fail;go_roundw
        case rel=>exact⟨1,by omega,by go_num,aL.out.trans ((eS.out.trans (g.below.acQ)).mono aL.out.size),oe,jq (by rw[cP.out];rfl)⟩
        case measure=>simp[intOf] <;> omega
       ·obtain⟨i,rfl⟩:∃ i,k=i+1:=⟨k - 1,by omega⟩;have p6:=aQ (show i<l.length by omega);obtain⟨b',o',c'',sq,dq,sg,nH,yu,_,jt,LY,yH,_,f0,f1,f2,f3,_⟩:=fk ((HD.out.keep bI so.out)) p6
        cases nH
        generalize hy:l[i]=y at *;clear hy;obtain⟨Aq,cq,rfl,TI,Lv⟩:=aj yH;have LV:(⟨sq.data.toList,y.set.type,y.set.life,y.set.data⟩:Np.DSet)=y.set:=by rw[jt]
        have Mb:Np.aD sq.data.toList=true:=by rw[jt];exact (Np.rY (HV.out i y (by omega) p6)).1
        have LN:nZ l (i+1)=some y.set:=Dt p6;have pE:=jq LN;have LI:∀ g:bi wa,Calls prog 234 #[.agg #[.string sq,.int .i64 y.set.type,.int .i64 y.set.life,.slice Aq y.set.data.length cq],.agg #[.string sn,.int .i64 x.set.type,.int .i64 x.set.life,.slice Ad x.set.data.length cd]] g.w λe w'=>e = .returned (.int .i64 (Np.fM y.set x.set))/\Below g.w.heap.size g.w w':=λg=>by
         have:=Ye sq sn y.set.type y.set.life x.set.type x.set.life (.slice Aq y.set.data.length cq) (.slice Ad x.set.data.length cd) y.set.data x.set.data Mb f8.out g.w
         rw[LV,Jf.out] at this;exact this
        have I0:=jq LI;clear LV LN yH jt p6 LI Mb;have lw:(0:Int)<=(i:Int):=by omega
        have p9:(i:Int)<(l.length:Int):=by omega
        have UI:(0:Int)<(((i+1:Nat)):Int):=by omega
        have ak:IntKind.i64.wrap (((i+1:Nat):Int) - 1)=(i:Int):=by rw[IntWalk.i64_in _ (by omega)];omega
        by_cases eY:Np.fM y.set x.set<0
        ·have jI:=jq (uQ eY);have FT:¬ (0<=Np.fM y.set x.set):=by omega
         refine adX ?_
         repeat (go_big_quiet_step (first
          | (go_at_call 150;exact Calls.grow_of (jH.out _))
          | (go_at_call 222;exact Calls.grow_of (kZ.out _))
          | (go_at_call 234;exact Calls.grow_of (I0.out _))))
         refine wpQuiet_nil ?_;rintro _ ⟨g,rfl⟩;go_wp2_with fail;go_roundw
         case rel=>
          refine⟨i+1+1,by omega,by go_num,aL.out.trans ((eS.out.trans (g.below.acQ)).mono aL.out.size),oe,jq ?_⟩;rw[cP.out,pE.out];simp only[jI.out,Bool.true_and]
         case measure=>simp[intOf] <;> omega
        ·have jI:=jq (tQ eY);have FT:0<=Np.fM y.set x.set:=by omega
         refine adX ?_
         repeat (go_big_quiet_step (first
          | (go_at_call 150;exact Calls.grow_of (jH.out _))
          | (go_at_call 222;exact Calls.grow_of (kZ.out _))
          | (go_at_call 234;exact Calls.grow_of (I0.out _))))
         refine wpQuiet_nil ?_;rintro _ ⟨g,rfl⟩;go_wp2_with fail;go_ret;refine⟨ae ?_,so.out.trans (g.below.acQ)⟩;rw[HF.out,cP.out,pE.out];simp only[jI.out,Bool.false_and]
    ·go_wp2_with fail;go_ret;refine⟨ae ?_,ar.out.trans (aI.acQ)⟩;rw[HF.out,HG.out,List.drop_eq_nil_of_le (by omega)];rfl
theorem X8(v:Value)(l:List Np.Host)(w:World)(hd:SlR kl 3 w w.heap.size v l) :
 Calls prog 87 #[v] w (aeJ w.heap.size w (.bool (Np.yes (Np.VHosts l)))):=by
 obtain⟨r,hr⟩:=abK (Np.yes (Np.VHosts l));rw[hr];have HR:=jq hr;have HD:=jq hd;obtain⟨A,c,rfl,aW,bh⟩:=aj hd;clear hr hd;by_cases td:l.length<=64
 ·have DA:=jq td;go_enter func87,ntmps87;go_wp2_with fail;go_loopw [3] (λi wr=>∃ k:Nat,k<=l.length/\i = .int .i64 k/\Hid (Below w.heap.size w wr)/\Hid (∀ j x,j<k->l[j]?=some x->Np.HostOk x)/\Hid (((l.take k).map (·.addr)).Nodup)) (λi _=>l.length - (intOf i).toNat)
  case atStart=>exact⟨0,jQ _,rfl,jq (vQ _ _),jq (λj x hj=>by omega),jq (by simp)⟩
  case round=>
   obtain⟨k,hk,rfl,HB,HA,xe⟩:=hrel;have bO:=HB.out.size;by_cases aa:k<l.length
   ·obtain⟨x,ac⟩:∃ x,l[k]?=some x:=⟨_,aQ aa⟩;obtain⟨b,o,sn,rfl,bp,aw,cE,f0,f1,f2⟩:=zj (HD.out.keep nl HB.out) ac;have ht:l.take (k+1)=l.take k ++ [x]:=by
     obtain⟨hl,he⟩:=cQ.1 ac;rw[fQ hl,he]
    have HT:=jq ht;have HN:Hid (Np.HostOk x->∀ j y,j<k+1->l[j]?=some y->Np.HostOk y):=jq (λh j y hj hy=>by
     by_cases e:j=k
     ·subst e;rw[ac] at hy;cases hy;exact h
     ·exact HA.out j y (by omega) hy)
    have HF:Hid (¬ Np.HostOk x->r=false):=jq (λh=>by rw[<-HR.out];exact Np.aK λq=>h (q.each x (gQ ac)));have sB:Hid (x.addr∈(l.take k).map (·.addr)->r=false):=jq (λh=>by
     rw[<-HR.out];refine Np.aK λq=>?_;have h1:=q.addrs;have h2:(l.take (k+1)).map (·.addr) <+: l.map (·.addr):=by rw[List.map_take];exact List.take_prefix _ _
     have h3:=h1.sublist h2.sublist;rw[ht,List.map_append,List.nodup_append] at h3;exact h3.2.2 x.addr h x.addr (by simp) rfl)
    have aS:=jq aw;have eS:Hid (∀ o,Below wr.heap.size wr (wr.alloc o)):=jq (λo=>(vQ _ _).alloc (bQ _) _);obtain⟨w2,ag⟩:=abK (wr.alloc (.cells #[.string sn,.int .i64 x.addr,.int .i64 x.owner] 101));have ab:Below wr.heap.size wr w2:=by rw[<-ag];exact eS.out _
    have p0:w2.cell? ⟨wr.heap.size,0,none⟩=some (.string sn):=by rw[<-ag];simp[go_sem]
    have p1:w2.cell? ⟨wr.heap.size,1,none⟩=some (.int .i64 x.addr):=by rw[<-ag];simp[go_sem]
    have p2:w2.cell? ⟨wr.heap.size,2,none⟩=some (.int .i64 x.owner):=by rw[<-ag];simp[go_sem]
    have aO:wr.heap.size<w2.heap.size:=by rw[<-ag];simp
    have ai:=jq ab;have bL:(0:Int)<=(k:Int):=by omega
    have bY:(k:Int)<(l.length:Int):=by omega
    clear ac aw ht ab;go_wp2_with fail;clear ag f0 f1 f2;refine (vS sn cE _).mono ?_;rintro e w3 ⟨rfl,ah⟩;have fW:=ah.size;have aB:=abJ ai ah;replace p0:w3.cell? ⟨wr.heap.size,0,none⟩=some (.string sn):=(ah.cell (by simpa using aO)).trans p0;replace p1:w3.cell? ⟨wr.heap.size,1,none⟩=some (.int .i64 x.addr):=(ah.cell (by simpa using aO)).trans p1;replace p2:w3.cell? ⟨wr.heap.size,2,none⟩=some (.int .i64 x.owner):=(ah.cell (by simpa using aO)).trans p2;clear ah
    cases kb:Np.aD sn.data.toList with
    | false=>
     have HX:Hid (r=false):=jq (HF.out λh=>by have:=h.name;rw[<-aS.out,kb] at this;cases this);clear kb;go_wp2_with fail;go_ret;exact⟨ae HX.out.symm,HB.out.trans (aB.out.acQ)⟩
    | true=>
     have f8:=jq kb;clear kb;go_wp2_with fail;refine (Nu sn f8.out _).mono ?_;rintro e w4 ⟨rfl,aq⟩;have gX:=aq.size;have bJ:=abJ aB aq;replace p1:=abZ aq p1;replace p2:=abZ aq p2;clear aq p0
     cases qr:Np.dO sn.data.toList with
     | true=>
      have HX:Hid (r=false):=jq (HF.out λh=>by have:=h.wild;rw[<-aS.out,qr] at this;cases this);clear qr;go_wp2_with fail;go_ret;exact⟨ae HX.out.symm,HB.out.trans (bJ.out.acQ)⟩
     | false=>
      have EK:=jq qr;clear qr;have nN:decide (x.addr<1)=true\/decide (x.addr<1)=false/\(decide (1000000<x.addr)=true\/decide (1000000<x.addr)=false/\(decide (x.owner<0)=true\/decide (x.owner<0)=false/\(decide (31<x.owner)=true\/decide (31<x.owner)=false))):=by
       simp only[Qa,decide_eq_false_iff_not];omega
      rcases nN with d1 | ⟨d1,d2 | ⟨d2,d3 | ⟨d3,d4 | d4⟩⟩⟩
      rotate_right
      ·have bk:Hid (Np.HostOk x):=jq (by
        simp only[decide_eq_false_iff_not] at d1 d2 d3 d4;exact⟨by rw[<-aS.out];exact f8.out,by rw[<-aS.out];exact EK.out,by omega,by omega⟩)
       go_wp2_with fail;obtain⟨wo,rfl⟩:=abX wr;go_loopw [6] (λi wx=>∃ m:Nat,m<=k/\i = .int .i64 m/\Hid (Below w4.heap.size w4 wx)/\Hid (∀ j y,j<m->l[j]?=some y->y.addr≠x.addr)) (λi _=>k - (intOf i).toNat)
       case atStart=>exact⟨0,jQ _,rfl,jq (vQ _ _),jq (λj y hj=>by omega)⟩
       case round=>
        obtain⟨m,hm,rfl,g9,HX⟩:=hrel;have hzx:=g9.out.size;have q1:wr.cell? ⟨wo.heap.size,1,none⟩=some (.int .i64 x.addr):=abZ g9.out p1;have aL:Hid (Below wo.heap.size wo wr):=abJ bJ g9.out;by_cases vp:m<k
        ·obtain⟨y,cn⟩:∃ y,l[m]?=some y:=⟨_,aQ (by omega)⟩;obtain⟨b9,o9,sy,KH,_,_,_,_,g1,_⟩:=zj (HD.out.keep nl (HB.out.trans (aL.out.acQ))) cn;simp only[Option.some.injEq,Addr.mk.injEq,and_true] at KH;obtain⟨rfl,rfl⟩:=KH;have iu:(0:Int)<=(m:Int):=by omega
         have Gc:(m:Int)<(l.length:Int):=by omega
         have fu:decide ((m:Int)<(k:Int))=true:=by simp;omega
         by_cases he:y.addr=x.addr
         ·have HY:Hid (r=false):=jq (sB.out (List.mem_map.2 ⟨y,List.mem_iff_getElem?.2 ⟨m,by rw[List.getElem?_take,Qb vp];exact cn⟩,he⟩));have ge:(y.addr == x.addr)=true:=by simpa using he
          clear he cn;go_wp2_with fail;go_quiet (fail);go_wp2_with fail;go_ret;exact⟨ae HY.out.symm,below_drewN (HB.out.trans (aL.out.acQ)) _⟩
         ·have HY:Hid (∀ j z,j<m+1->l[j]?=some z->z.addr≠x.addr):=jq (λj z hj hz=>by
           by_cases e:j=m
           ·subst e;rw[cn] at hz;cases hz;exact he
           ·exact HX.out j z (by omega) hz)
          have ge:(y.addr == x.addr)=false:=by simpa using he
          clear he cn;go_wp2_with fail;go_quiet (fail);go_wp2_with fail;go_roundw
          case rel=>exact⟨m+1,by omega,by go_num,jq (below_drewN g9.out _),HY⟩
          case measure=>simp[intOf] <;> omega
        ·have fu:decide ((m:Int)<(k:Int))=false:=by simp;omega
         have Ej:Hid (((l.take (k+1)).map (·.addr)).Nodup):=jq (by
          rw[HT.out,List.map_append,List.nodup_append];refine⟨xe.out,by simp,λy hy z hz e=>?_⟩;simp at hz;obtain⟨u,hu,vG⟩:=List.mem_map.1 hy;obtain⟨j,hj,rfl⟩:=nQ.1 hu;rw[List.length_take] at hj;rw[List.getElem_take] at vG;exact HX.out j _ (by omega) (aQ (by omega)) (by rw[vG,e,hz]))
         go_wp2_with fail;go_roundw
         case rel=>exact⟨k+1,by omega,by go_num,abJ HB aL.out,jq (HN.out bk.out),Ej⟩
         case measure=>simp[intOf] <;> omega
      all_goals
       have HX:Hid (r=false):=jq (HF.out λh=>by
        have h1:=h.addr;have h2:=h.owner;simp only[Qa,decide_eq_false_iff_not] at *;omega)
       go_wp2_with fail;go_ret;exact⟨ae HX.out.symm,HB.out.trans (bJ.out.acQ)⟩
   ·go_wp2_with fail;go_ret;refine⟨ae ?_,HB.out⟩;rw[<-HR.out];refine (Np.bS ⟨DA.out,λx hx=>?_,?_⟩).symm
    ·obtain⟨j,hj,rfl⟩:=nQ.1 hx;exact HA.out j _ (by omega) (aQ hj)
    ·have:=xe.out
     rwa [kQ (by omega)] at this
 ·have HX:Hid (r=false):=jq (by rw[<-HR.out];exact Np.aK λq=>td q.few);have SX:64<l.length:=by omega
  clear td;go_enter func87,ntmps87;go_wp2_with fail;go_ret;exact⟨ae HX.out.symm,vQ _ _⟩
theorem G8{α:Type}{R:afQ α}{sz n c:Nat}{w:World}{B:Nat}{xs:List α}(h:SlR R sz w B (.slice none n c) xs):n=0/\xs = []:=by
 obtain⟨A',c',hA',_,_,aC⟩:=h;simp only[Value.slice.injEq] at hA';obtain⟨rfl,rfl,rfl⟩:=hA'
 cases xs with
 | nil=>exact⟨rfl,rfl⟩
 | cons x xs=>
  obtain⟨b,o,e,hA,_⟩:=aC 0 x rfl
  cases hA
theorem Tryz.infoCloneDatum:(prog.info? 128).map (λi=>(i.zero,i.size,i.bytes))=some (some (.agg #[.string ⟨#[]⟩,.int .i64 0,.int .i64 0]),3,32):=by kernel_rfl
theorem J2(v:Value)(xs:List Np.Datum)(hl:xs.length<=1000000)(w:World)(h:SlR bW 3 w w.heap.size v xs) :
 Calls prog 68 #[v] w λe w'=>∃ v',e = .returned v'/\bj bW 3 128 w.heap.size w.heap.size w' v' xs/\Below w.heap.size w w':=by
 have HD:=jq h;obtain⟨A,c,rfl,aW,bh⟩:=aj h;clear h;have heq:=run_eql_slice_nil (P:=prog) w 24 128 A xs.length c underlying24;have ba:Hid (Below w.heap.size w (w.alloc (.cells #[] 128))):=jq ((vQ _ _).alloc (bQ _) _);obtain⟨i0,hi,dI,bg,aO⟩:=info_parts Tryz.infoCloneDatum
 cases A with
 | none=>
  obtain⟨hn,rfl⟩:=G8 HD.out;rw[List.length_nil] at heq |-;simp only[Option.isNone_none] at heq;go_enter func68,ntmps68;go_wp2_with fail;go_ret;exact⟨_,rfl,bj.nil _,vQ _ _⟩
 | some ad=>
  go_enter func68,ntmps68;go_wp2_with (at_builtin;refine H0 (R:=bW) (sz:=3) _ rfl _ _ 24 rfl w.heap.size w.heap.size 128 i0 (.agg #[.string ⟨#[]⟩,.int .i64 0,.int .i64 0]) 32 underlying24 hi dI bg aO rfl (by decide) _ [] rfl (bj.empty w (bQ _)) (some ad) c w.heap.size xs rfl (HD.out.keep cu ba.out) (λr y h=>by (obtain⟨s,_,_,rfl⟩:=h;intro u hu;simp at hu;try rcases hu with rfl | rfl | rfl | rfl | rfl | rfl <;> rfl)) (by simp[maxLen];omega) (by simp;omega) (by simp) (bQ _) (bQ _) cu cS ?_;intro v3 w3 lE ah lu;have H3:=jq (And.intro lE (ba.out.trans ah));clear lE ah lu);go_ret;exact⟨_,rfl,H3.out.1,H3.out.2⟩
theorem Tryz.infoCloneSig:(prog.info? 50).map (λi=>(i.zero,i.size,i.bytes))=some (some (.agg #[.string ⟨#[]⟩,.int .i64 0,.int .i64 0,.int .i64 0,.int .i64 0,.int .u64 0]),6,56):=by kernel_rfl
theorem J3(v:Value)(xs:List Np.Sig)(hl:xs.length<=1000000)(w:World)(h:SlR cV 6 w w.heap.size v xs) :
 Calls prog 142 #[v] w λe w'=>∃ v',e = .returned v'/\bj cV 6 50 w.heap.size w.heap.size w' v' xs/\Below w.heap.size w w':=by
 have HD:=jq h;obtain⟨A,c,rfl,aW,bh⟩:=aj h;clear h;have heq:=run_eql_slice_nil (P:=prog) w 40 50 A xs.length c underlying40;have ba:Hid (Below w.heap.size w (w.alloc (.cells #[] 50))):=jq ((vQ _ _).alloc (bQ _) _);obtain⟨i0,hi,dI,bg,aO⟩:=info_parts Tryz.infoCloneSig
 cases A with
 | none=>
  obtain⟨hn,rfl⟩:=G8 HD.out;rw[List.length_nil] at heq |-;simp only[Option.isNone_none] at heq;go_enter func142,ntmps142;go_wp2_with fail;go_ret;exact⟨_,rfl,bj.nil _,vQ _ _⟩
 | some ad=>
  go_enter func142,ntmps142;go_wp2_with (at_builtin;refine H0 (R:=cV) (sz:=6) _ rfl _ _ 40 rfl w.heap.size w.heap.size 50 i0 (.agg #[.string ⟨#[]⟩,.int .i64 0,.int .i64 0,.int .i64 0,.int .i64 0,.int .u64 0]) 56 underlying40 hi dI bg aO rfl (by decide) _ [] rfl (bj.empty w (bQ _)) (some ad) c w.heap.size xs rfl (HD.out.keep cT ba.out) (λr y h=>by (obtain⟨s,_,_,rfl⟩:=h;intro u hu;simp at hu;try rcases hu with rfl | rfl | rfl | rfl | rfl | rfl <;> rfl)) (by simp[maxLen];omega) (by simp;omega) (by simp) (bQ _) (bQ _) cT dU ?_;intro v3 w3 lE ah lu;have H3:=jq (And.intro lE (ba.out.trans ah));clear lE ah lu);go_ret;exact⟨_,rfl,H3.out.1,H3.out.2⟩
end
end Go.Proofs.YtfnopgdcaanaiaaGreatDoor
