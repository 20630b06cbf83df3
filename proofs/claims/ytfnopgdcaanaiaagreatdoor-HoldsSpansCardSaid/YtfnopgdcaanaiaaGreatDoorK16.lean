/- Parts of the proof. No condition. -/
import Derived.Lib.LazyBuf
import Derived.Test.YtfnopgdcaanaiaaGreatDoorK11
import Derived.Test.YtfnopgdcaanaiaaGreatDoorK13
set_option linter.all false
set_option maxRecDepth 100000
set_option maxHeartbeats 8000000
namespace Go.Proofs.YtfnopgdcaanaiaaGreatDoor
open Go.Proofs.Tryz
section
open Go.RowKit Go.Shelf
attribute [local go_sem] Oper.semAt_some
theorem fe.block{w w':World}{B:Nat}{xs:List (List UInt8)}(h:fe w B xs)(hb:w'.heap[B]?=w.heap[B]?):fe w' B xs:=λj x hx=>by
 obtain⟨s,h1,h2,h3,h4⟩:=h j x hx;refine⟨s,h1,h2,(iQ (a:=⟨B,j,none⟩) hb).trans h3,?_⟩;rw[<-h4];simp only[World.frozen?,hb]
def L4(w:World)(M b5 b6:Nat)(pre:List (List UInt8))(S:Nat->Prop)(W:World):Prop:=
 (∀ k,S k↔k=M\/k=b5\/k=b6)/\Boxed W b5 116 (.slice (some ⟨M,0,none⟩) 8 8)/\Boxed W b6 3 (.int .i64 ((8 - pre.length:Nat):Int))/\pre.length<=8/\Hid (fe W M (List.replicate (8 - pre.length) []++pre.reverse))/\M<W.heap.size/\Below w.heap.size w W
theorem PG(w:World)(M b5 b6:Nat)(B:Nat)(hB:w.heap.size<=B):fq B (L4 w M b5 b6):=by
 rintro s S W W' ⟨hS,h1,h2,h3,h4,h6,h5⟩ av;refine⟨hS,jU h1 av ((hS _).2 (.inr (.inl rfl))),jU h2 av ((hS _).2 (.inr (.inr rfl))),h3,jq (h4.out.block ?_),lQ h6 av.size,uY h5 av hB (bQ _)⟩;exact av.keep _ h6 (.inr ((hS _).2 (.inl rfl)))
theorem ZZ{p:Nat}{pre:List (List UInt8)}{x:List UInt8}(hp:pre.length=p)(h8:p<8):(List.replicate (8 - p) []++pre.reverse).set (8 - (p+1)) x=List.replicate (8 - (p+1)) []++(pre ++ [x]).reverse:=by
 have e:List.replicate (8 - p) ([]:List UInt8)=List.replicate (8 - (p+1)) [] ++ [[]]:=by
  rw[show 8 - p=(8 - (p+1))+1 by omega,List.replicate_succ']
 rw[e,List.append_assoc,List.set_append_right _ _ (by rw[List.length_replicate];exact bQ _),List.length_replicate,Nat.sub_self,List.reverse_append];rfl
theorem HU:∀ (xs:List (List UInt8)) (n:Nat) (b:Bool),Np.fh xs n b=true->n<=8->n+xs.length<=8
 | [],n,b,_,h=>by simpa using h
 | x::xs,n,b,h,hn=>by
   unfold Np.fh at h;split at h
   ·cases h
   ·rename_i hc;simp only[Bool.or_eq_true,Qa,not_or] at hc;rw[List.length_cons];split at h
    ·have:=HU xs (n+1) true h (by omega);omega
    ·split at h
     ·have:=HU xs (n+1) false h (by omega);omega
     ·cases h
theorem UY{l:List UInt8}(h:Np.aG l=true):(Np.back l).length<=8:=by
 unfold Np.back;split
 ·simp
 ·rename_i hd;unfold Np.aG at h;rw[Qc hd] at h;split at h
  ·cases h
  ·have:=HU _ 0 false h (by omega)
   omega
theorem Z4(t:ByteArray)(hv:Np.aG t.data.toList=true)(w:World) :
 Calls prog 187 #[.string t] w λe w'=>(∃ v,e = .returned (.tuple #[v,.int .i64 0])/\SlR RTx 1 w' w'.heap.size v (Np.ek t.data.toList))/\Below w.heap.size w w':=by
 have ht:t.size<=60:=yP hv;have uk:Hid ((Np.back t.data.toList).length<=8):=jq (UY hv);have HV:=jq hv;clear hv;have fX:∀ w:World,(Instr.makeSlice 116 (.int .i64 8) (.int .i64 8)).run prog w = .ok (.slice (some ⟨w.heap.size,0,none⟩) 8 8) (w.alloc (.cells (madeCells #[Value.string ⟨#[]⟩] 8) 9)):=λw=>JJ 8 (by decide) w;have HZ:Hid (∀ j,j<8->(madeCells #[Value.string ⟨#[]⟩] 8)[j]?=some (.string ⟨#[]⟩)):=jq (λj hj=>JI _ _ hj);generalize madeCells #[Value.string ⟨#[]⟩] 8=Z at fX HZ;refine (callsIn_wide (n:=0)).1 ?_;refine callsIn_of_wp_marks func187 rfl trivial ?_ rfl;simp only[ntmps187,List.size_toArray,List.length_cons,List.length_nil,Nat.reduceAdd,Nat.reduceSub,Array.replicate_succ,Array.replicate_zero,List.push_toArray,List.append_toArray,List.nil_append,List.cons_append];gi_wp2_with fail;refine⟨trivial,rfl,?_⟩;refine (callsIn_wide.2 (valid_any t (by omega) _)).mono ?_;rintro e w1 ⟨rfl,aw⟩;rw[HV.out];have ay:=jq aw;have bh:=aw.size;clear aw;gi_wp2_with fail;have b5:=Boxed.new (w1.alloc (.cells Z 9)) 116 (.slice (some ⟨w1.heap.size,0,none⟩) 8 8);have b6:=Boxed.new ((w1.alloc (.cells Z 9)).alloc (.cells #[.slice (some ⟨w1.heap.size,0,none⟩) 8 8] 116)) 3 (.int .i64 8);simp only[World.size_alloc] at b5 b6;have WO:fe (w1.alloc (.cells Z 9)) w1.heap.size (List.replicate 8 []):=λj x hx=>by
  rw[List.getElem?_replicate] at hx;split at hx
  ·rename_i hj
   cases hx
   exact⟨⟨#[]⟩,rfl,by decide,by simp[go_sem];exact HZ.out j hj,by simp[go_sem]⟩
  ·cases hx
 refine Fo (n₀:=w.heap.size) (w0:=w) (first:=#[.string t]) (captured:=#[]) (gf:=215) rfl (enters_of func215 (by kernel_rfl) rfl) (mk:=λy=>#[.string t,y]) (λ_=>rfl)
  (Dz t (by omega) _ w) (ay.out.trans ((((vQ _ w1).alloc (bQ _) _).alloc (by simp) _).alloc (by simp;omega) _ |>.mono bh)) (by simp;omega) (λ_=>rfl) (L4 w w1.heap.size (w1.heap.size+1) (w1.heap.size+1+1)) (λ_ _ _ _=>False)
  (PG _ _ _ _ _ (by simp;omega)) (λc s S W W' h _=>h)
  (λk=>k=w1.heap.size\/k=w1.heap.size+1\/k=w1.heap.size+1+1) (by intro k h;omega) (by intro k h;simp;omega)
  ⟨λ_=>Iff.rfl,b5.alloc _,b6,by simp,jq ((WO.keep (((vQ _ _).alloc (bQ _) _).alloc (by simp) _) (by simp))),by simp;omega,ay.out.trans ((((vQ _ w1).alloc (bQ _) _).alloc (by simp) _).alloc (by simp;omega) _ |>.mono bh)⟩ ?round ?done ?stop
 case round=>
  rintro l0 pre x S W bw hI eu;gi_wp2;refine⟨S,RdStep.refl _ _,λk e=>.inl e,eu,?_⟩;intro l W₂ av;obtain⟨hS,c5,c6,h8,hrow,Ij,hB⟩:=PG w _ _ _ _ (by simp;omega) pre S W W₂ hI av;have iD:pre.length+1<=8:=by
   have:=bw.length_le
   have h9:=uk.out;simp at this;omega
  have hx:x∈Np.back t.data.toList:=bw.subset (by simp);have tV:x.length<=60:=by have:=Np.Dy hx;rw[aZ] at this;omega
  have lX:∀ k,S k->k<W₂.heap.size:=λk e=>lQ (eu k e) av.size;obtain⟨j,hj⟩:∃ j,8 - (pre.length+1)=j:=⟨_,rfl⟩;have hq:((8 - pre.length:Nat):Int)=((j+1:Nat):Int):=by omega
  rw[hq] at c6;have hj8:j<8:=by omega
  obtain⟨sz,_,_,rx,tq⟩:=hrow.out j [] (by rw[List.getElem?_append_left (by rw[List.length_replicate];omega),List.getElem?_replicate,Qb (by omega)]);have xM:Hid (∀ W',fe W' w1.heap.size (List.replicate (8 - pre.length) []++pre.reverse)->fe (W'.setCell ⟨w1.heap.size,j,none⟩ (aD x)) w1.heap.size (List.replicate (8 - (pre ++ [x]).length) []++(pre ++ [x]).reverse)):=jq (λW' hW=>by
   have h1:=hW.store (k:=j) (by rw[List.length_append,List.length_replicate,List.length_reverse];omega) ⟨x.toArray⟩ (by rw[<-aZ];simp;omega);have e:((⟨x.toArray⟩:ByteArray).data.toList)=x:=by simp
   rw[e,<-hj,ZZ rfl (by omega)] at h1;rw[List.length_append,List.length_singleton,<-hj];exact h1)
  have HOLD:=jq hrow.out;have gL:=jq c5;have eq:=jq c6;have c5c:=c5.cell;have c6c:=c6.cell;have c5f:=c5.frozen;have c6f:=c6.frozen;have aj:IntKind.i64.wrap (((j+1:Nat):Int) - 1)=(j:Int):=by rw[IntWalk.i64_in _ (by omega)];omega
  have ju:(0:Int)<=(j:Int):=by omega
  have tv:(j:Int)<8:=by omega
  have HJ:=jq hj;clear hx hq bw hI hrow c5 c6 hj;have hlen:8 - (pre ++ [x]).length=j:=by rw[List.length_append,List.length_singleton];exact HJ.out
  have xF:=jq hlen;clear hlen;gi_wp2;refine⟨S,((RdStep.refl S W₂).setCell (p:=⟨w1.heap.size+1+1,0,none⟩) (.inl ((hS _).2 (.inr (.inr rfl)))) _).setCell (p:=⟨w1.heap.size,j,none⟩) (.inl ((hS _).2 (.inl rfl))) _,λ_ e=>.inl e,λk e=>by have:=lX k e;simp[World.setCell];omega,hS,?_,?_,by rw[List.length_append,List.length_singleton];omega,jq (xM.out _ (HOLD.out.other (by simp <;> omega) _)),by simpa using Ij,(hB.setCell (p:=⟨w1.heap.size+1+1,0,none⟩) (by simp;omega) _).setCell (p:=⟨w1.heap.size,j,none⟩) (by simpa using bh) _⟩
  ·exact eM (eM gL.out (p:=⟨w1.heap.size+1+1,0,none⟩) (by simp) _) (p:=⟨w1.heap.size,j,none⟩) (by simp) _
  ·rw[xF.out];exact eM (eq.out.set _) (p:=⟨w1.heap.size,j,none⟩) (by simp <;> omega) _
 case done=>
  rintro D S W hD fu bd ⟨hS,c5,c6,h8,hrow,Ij,hB⟩ hK;have c5c:=c5.cell;have c6c:=c6.cell;obtain⟨n,hn⟩:∃ n,(Np.back t.data.toList).length=n:=⟨_,rfl⟩;rw[hn] at c6c h8;obtain⟨q,hq⟩:∃ q,8 - n=q:=⟨_,rfl⟩;rw[hq] at c6c;have vZ:q<=8:=by omega
  have ph:(0:Int)<=(q:Int):=by omega
  have I8:(q:Int)<=8:=by omega
  have HN:=jq hn;have HQ:=jq hq;have Tk:Hid (w1.heap.size≠D):=jq (λe=>fu ((hS _).2 (.inl e.symm)));have xM:=jq hrow.out;have Lr:Hid (Np.ek t.data.toList=(Np.back t.data.toList).reverse):=jq (by rw[<-Np.Cr,List.reverse_reverse]);have uP:Hid (∀ x∈Np.back t.data.toList,x.length<=140737488355328):=jq (λx hx=>by have:=Np.Dy hx;rw[aZ] at this;omega);clear hrow;by_cases mU:n=0
  ·have Yz:q=8:=by omega
   have Tr:Hid (Np.ek t.data.toList = []):=jq (by rw[Lr.out,rQ (HN.out.trans mU)];rfl);clear hn hq c5 c6 mU;subst Yz;gi_wp2;exact nN hK (v:=.tuple #[.slice (some ⟨w1.heap.size,0,none⟩) 0 0,.int .i64 0]) (by simp[results,results187,go_sem]) ⟨⟨_,rfl,by rw[Tr.out];exact⟨_,_,rfl,by simp,by simp,λi x hx=>by simp at hx⟩⟩,nL hB (by have:=ay.out.size;simp at hD;omega) _⟩
  ·have BU:q<8:=by omega
   have a0Z:(q:Int)<8:=by omega
   have kf:¬ q=8:=by omega
   have jK:Hid (8 - q=n):=jq (by omega);have hln:8 - q=n:=by omega
   clear hn hq c5 c6 mU;gi_wp2;refine nN hK (v:=.tuple #[.slice (some ⟨w1.heap.size,q,none⟩) n n,.int .i64 0]) (by simp[results,results187,go_sem]) ⟨⟨_,rfl,?_⟩,nL hB (by have:=ay.out.size;simp at hD;omega) _⟩;have hr:fe (W.putObj D (.deferred none)) w1.heap.size (List.replicate (8 - (Np.back t.data.toList).length) []++(Np.back t.data.toList).reverse):=xM.out.block (zQ Tk.out);rw[Lr.out];have tH:(Np.back t.data.toList).reverse.length=n:=by rw[List.length_reverse];exact HN.out
   refine⟨_,n,by rw[tH],by omega,by omega,λi x hx=>?_⟩;have hin:=(cQ.1 hx).1;obtain⟨s,h1,h2,h3,_⟩:=hr (q+i) x (by rw[HN.out,HQ.out,oQ (by rw[List.length_replicate];omega),List.length_replicate,show q+i - q=i by omega];exact hx);refine⟨w1.heap.size,q,[.string s],rfl,by simpa using Ij,rfl,λj v hv=>?_,s,h1,h2,rfl⟩
   match j,hv with
   | 0,hv=>cases hv;simpa using h3
 case stop=>
  rintro D c pre S W hD fu bd fI h hK;exact h.elim
theorem aHY(s:ByteArray)(h:Np.aG s.data.toList=true)(w:World) :
 Calls prog 246 #[.string s] w λe w'=>e = .returned (.bool (Np.eh s.data.toList))/\Below w.heap.size w w':=by
 have hw:=RL h;obtain⟨ps,fY⟩:∃ ps,Np.ek s.data.toList=ps:=⟨_,rfl⟩;obtain⟨r,hr⟩:∃ r,(ps.head? == some [42])=r:=⟨_,rfl⟩;rw[hw,fY,hr];have oJ:=jq fY;have HR:=jq hr;have HV:=jq h;clear hw h fY hr;go_enter func246,ntmps246;go_wp2_with fail;refine (Z4 s HV.out _).mono ?_;rw[oJ.out];rintro e w1 ⟨⟨v,rfl,hv⟩,hb⟩;have HB:=jq hb;clear hb;obtain⟨A,c,rfl,hc,hl,he⟩:=hv
 cases ps with
 | nil=>
  have HX:Hid (r=false):=jq (by rw[<-HR.out];rfl);go_wp2_with fail;go_ret;exact⟨ag HX.out.symm,HB.out⟩
 | cons x xs=>
  obtain⟨b,o,e,rfl,bC,_,hce,sx,qd,_,rfl⟩:=he 0 x rfl;have h0:w1.cell? ⟨b,o,none⟩=some (.string sx):=by have:=hce 0 _ rfl;simpa using this
  obtain⟨q,hq⟩:∃ q,(sx.toList == [42])=q:=⟨_,rfl⟩;have HX:Hid (q=r):=jq (by rw[<-HR.out,<-hq,dQ,qd,List.head?_cons,Bool.eq_iff_iff];simp);obtain⟨n,hn⟩:∃ n,(x::xs).length=n:=⟨_,rfl⟩;have mU:0<n:=by rw[<-hn];simp
  have Yk:(0:Int)<(n:Int):=by omega
  rw[hn];clear he hce hc hl hn qd
  cases q with
  | true=>
   go_wp2_with fail;go_ret;exact⟨ag HX.out,HB.out⟩
  | false=>
   go_wp2_with fail;go_ret;exact⟨ag HX.out,HB.out⟩
end
section
open Go.RowKit
def gz(_:World)(_:Nat)(e:List Value)(x:Np.Host):Prop:=∃ s:ByteArray,s.data.toList=x.name/\s.size<=140737488355328/\e = [.string s,.int .i64 x.addr,.int .i64 x.owner]
theorem km:dl gz:=λ_ _ _ _ _ h _=>h
theorem sh:dJ gz:=λ_ _ _ _ _ h _=>h
theorem BT{w:World}{B n c:Nat}{A:Option Addr}{xs:List Np.Host}(h:SlR gz 3 w B (.slice A n c) xs){k:Nat}{x:Np.Host}(hx:xs[k]?=some x):∃ (b o:Nat) (s:ByteArray),A=some ⟨b,o,none⟩/\b<B/\s.data.toList=x.name/\s.size<=140737488355328/\w.cell? ⟨b,o+k * 3,none⟩=some (.string s)/\w.cell? ⟨b,o+k * 3+1,none⟩=some (.int .i64 x.addr)/\w.cell? ⟨b,o+k * 3+2,none⟩=some (.int .i64 x.owner):=by
 obtain⟨A',c',hv,hc,_,he⟩:=h;simp only[Value.slice.injEq] at hv;obtain⟨rfl,_,_⟩:=hv;obtain⟨b,o,e,rfl,hb,_,hce,s,h1,h2,rfl⟩:=he k x hx;exact⟨b,o,s,rfl,hb,h1,h2,by have:=hce 0 _ rfl;simpa using this,hce 1 _ rfl,hce 2 _ rfl⟩
theorem ZD{w:World}{B n c:Nat}{A:Option Addr}{xs:List Int}(h:SlR gB 1 w B (.slice A n c) xs){k:Nat}{x:Int}(hx:xs[k]?=some x):∃ (b o:Nat),A=some ⟨b,o,none⟩/\b<B/\w.cell? ⟨b,o+k,none⟩=some (.int .i64 x):=by
 obtain⟨A',c',hv,hc,_,he⟩:=h;simp only[Value.slice.injEq] at hv;obtain⟨rfl,_,_⟩:=hv;obtain⟨b,o,e,rfl,hb,_,hce,rfl⟩:=he k x hx;exact⟨b,o,rfl,hb,by have:=hce 0 _ rfl;simpa using this⟩
def Np.lk(n:Int):Bool:=decide (1<=n)&&decide (n<=1000000)
theorem Kd(n:Int)(w:World) :
 Calls prog 247 #[.int .i64 n] w λe w'=>e = .returned (.bool (Np.lk n))/\w=w':=by
 obtain⟨r,hr⟩:∃ r,Np.lk n=r:=⟨_,rfl⟩;rw[hr];by_cases h1:1<=n
 ·by_cases h2:n<=1000000
  ·have HX:Hid (r=true):=jq (by rw[<-hr];simp[Np.lk,h1,h2]);clear hr;go_enter func247,ntmps247;go_wp2_with fail;go_ret;exact⟨ag HX.out.symm,rfl⟩
  ·have HX:Hid (r=false):=jq (by rw[<-hr];simp[Np.lk,h2]);clear hr;go_enter func247,ntmps247;go_wp2_with fail;go_ret;exact⟨ag HX.out.symm,rfl⟩
 ·have HX:Hid (r=false):=jq (by rw[<-hr];simp[Np.lk,h1]);clear hr;go_enter func247,ntmps247;go_wp2_with fail;go_ret;exact⟨ag HX.out.symm,rfl⟩
theorem Mg(a:Int):∀ l:List Np.Host,(((l.map λh=>(h.addr,Value.bool true)).lookup a).getD (.bool false) = .bool (decide (a∈l.map (·.addr))))/\(a∉l.map (·.addr)->(l.map λh=>(h.addr,Value.bool true)).lookup a=none)
 | []=>⟨rfl,λ_=>rfl⟩
 | h::l=>by
   obtain⟨i1,i2⟩:=Mg a l;rw[List.map_cons,List.map_cons];by_cases e:a=h.addr
   ·subst e;rw[List.lookup_cons_self];exact⟨by simp,λhn=>absurd (by simp) hn⟩
   ·have hb:(a == h.addr)=false:=by simpa using e
    rw[List.lookup_cons,hb];exact⟨by rw[i1];simp[e],λhn=>i2 λhm=>hn (mQ _ hm)⟩
theorem aFX(v:Value)(l:List Np.Host)(w:World)(hd:SlR gz 3 w w.heap.size v l) :
 Calls prog 180 #[v] w λe w'=>e = .returned (.bool (Np.yes (Np.VHosts l)))/\Below w.heap.size w w':=by
 obtain⟨r,hr⟩:∃ r,Np.yes (Np.VHosts l)=r:=⟨_,rfl⟩;rw[hr];have HR:=jq hr;have HD:=jq hd;obtain⟨A,c,rfl,bD,bL⟩:=al hd;clear hr hd;by_cases vl:l.length<=64
 ·have FC:=jq vl;have pb:∀ (w:World),(Instr.makeMap 298 none).run prog w = .ok (.map (some w.heap.size)) (w.alloc (.map #[] 0)):=λw=>by
   simp[Instr.makeMap,Result.andThen]
  go_enter func180,ntmps180;go_wp2_with fail;have uB:=jq (mE.made w);have aw:Below w.heap.size w (w.alloc (.map #[] 0)):=(vQ _ w).alloc (bQ _) _;have ay:=jq aw;have bh:w.heap.size<(w.alloc (.map #[] 0)).heap.size:=by simp
  clear aw;generalize w.alloc (.map #[] 0)=w1 at *;go_loopw [12] (λi wr=>∃ k:Nat,k<=l.length/\i = .int .i64 k/\Hid (Below w.heap.size w wr)/\w.heap.size<wr.heap.size/\Hid (mE w.heap.size ((l.take k).map λh=>(h.addr,Value.bool true)) wr)/\Hid (∀ j x,j<k->l[j]?=some x->Np.HostOk x)/\Hid (((l.take k).map (·.addr)).Nodup)) (λi _=>l.length - (intOf i).toNat)
  case atStart=>exact⟨0,jQ _,rfl,ay,bh,uB,jq (λj x hj=>by omega),jq (by simp)⟩
  case round=>
   obtain⟨k,hk,rfl,HB,cK,HM,HA,zN⟩:=hrel;by_cases aa:k<l.length
   ·obtain⟨x,ab⟩:∃ x,l[k]?=some x:=⟨_,aQ aa⟩;obtain⟨b,o,sn,rfl,bU,aF,cx,f0,f1,f2⟩:=BT (HD.out.keep km HB.out) ab;have ht:l.take (k+1)=l.take k ++ [x]:=by
     obtain⟨hl,he⟩:=cQ.1 ab;rw[fQ hl,he]
    have HT:=jq ht;have HN:Hid (Np.HostOk x->∀ j y,j<k+1->l[j]?=some y->Np.HostOk y):=jq (λh j y hj hy=>by
     by_cases e:j=k
     ·subst e;rw[ab] at hy;cases hy;exact h
     ·exact HA.out j y (by omega) hy)
    have HF:Hid (¬ Np.HostOk x->r=false):=jq (λh=>by rw[<-HR.out];exact Np.aN λq=>h (q.each x (gQ ab)));have uo:Hid (x.addr∈(l.take k).map (·.addr)->r=false):=jq (λh=>by
     rw[<-HR.out];refine Np.aN λq=>?_;have h1:=q.addrs;have h2:(l.take (k+1)).map (·.addr) <+: l.map (·.addr):=by rw[List.map_take];exact List.take_prefix _ _
     have h3:=h1.sublist h2.sublist;rw[ht,List.map_append,List.nodup_append] at h3;exact h3.2.2 x.addr h x.addr (by simp) rfl)
    have aS:=jq aF;have fB:Hid (∀ o,Below wr.heap.size wr (wr.alloc o)):=jq (λo=>(vQ _ _).alloc (bQ _) _);obtain⟨w2,ae⟩:∃ w2,wr.alloc (.cells #[.string sn,.int .i64 x.addr,.int .i64 x.owner] 101)=w2:=⟨_,rfl⟩;have ac:Below wr.heap.size wr w2:=by rw[<-ae];exact fB.out _
    have p0:w2.cell? ⟨wr.heap.size,0,none⟩=some (.string sn):=by rw[<-ae];simp[go_sem]
    have p1:w2.cell? ⟨wr.heap.size,1,none⟩=some (.int .i64 x.addr):=by rw[<-ae];simp[go_sem]
    have p2:w2.cell? ⟨wr.heap.size,2,none⟩=some (.int .i64 x.owner):=by rw[<-ae];simp[go_sem]
    have aM:wr.heap.size<w2.heap.size:=by rw[<-ae];simp
    have ak:=jq ac;clear ab aF ht ac;go_wp2_with fail;clear ae f0 f1 f2;refine (nameValid_any sn cx _).mono ?_;rintro e w3 ⟨rfl,am⟩;have dP:=am.size;have az:=jq (ak.out.trans (am.mono (by omega)));replace p0:w3.cell? ⟨wr.heap.size,0,none⟩=some (.string sn):=(am.cell (by simpa using aM)).trans p0;replace p1:w3.cell? ⟨wr.heap.size,1,none⟩=some (.int .i64 x.addr):=(am.cell (by simpa using aM)).trans p1;replace p2:w3.cell? ⟨wr.heap.size,2,none⟩=some (.int .i64 x.owner):=(am.cell (by simpa using aM)).trans p2;clear am
    cases kM:Np.aG sn.data.toList with
    | false=>
     have HX:Hid (r=false):=jq (HF.out λh=>by have:=h.name;rw[<-aS.out,kM] at this;cases this);clear kM;go_wp2_with fail;go_ret;exact⟨ag HX.out.symm,HB.out.trans (az.out.mono (by omega))⟩
    | true=>
     have gN:=jq kM;clear kM;go_wp2_with fail;refine (aHY sn gN.out _).mono ?_;rintro e w4 ⟨rfl,ar⟩;have eC:=ar.size;have br:=jq (az.out.trans (ar.mono (by omega)));replace p1:w4.cell? ⟨wr.heap.size,1,none⟩=some (.int .i64 x.addr):=(ar.cell (by dsimp only;omega)).trans p1;replace p2:w4.cell? ⟨wr.heap.size,2,none⟩=some (.int .i64 x.owner):=(ar.cell (by dsimp only;omega)).trans p2;clear ar p0
     cases rU:Np.eh sn.data.toList with
     | true=>
      have HX:Hid (r=false):=jq (HF.out λh=>by have:=h.wild;rw[<-aS.out,rU] at this;cases this);clear rU;go_wp2_with fail;go_ret;exact⟨ag HX.out.symm,HB.out.trans (br.out.mono (by omega))⟩
     | false=>
      have G8:=jq rU;clear rU;by_cases BQ:x.owner<0
      ·have HX:Hid (r=false):=jq (HF.out λh=>by have:=h.owner;omega);go_wp2_with fail;go_ret;exact⟨ag HX.out.symm,HB.out.trans (br.out.mono (by omega))⟩
      ·have g1:decide (x.owner<0)=false:=by simpa using BQ
       by_cases ig:32<=x.owner
       ·have g2:decide (32<=x.owner)=true:=by simpa using ig
        have HX:Hid (r=false):=jq (HF.out λh=>by have:=h.owner;omega);go_wp2_with fail;go_ret;exact⟨ag HX.out.symm,HB.out.trans (br.out.mono (by omega))⟩
       ·have g2:decide (32<=x.owner)=false:=by simpa using ig
        have fP:Hid (0<=x.owner/\x.owner<=31):=jq (by omega);clear BQ ig
        cases vt:Np.lk x.addr with
        | false=>
         have HX:Hid (r=false):=jq (HF.out λh=>by have:=h.addr;simp[Np.lk] at vt;omega);have HC:Hid (∀ w,Calls prog 247 #[.int .i64 x.addr] w λe w'=>e = .returned (.bool false)/\w=w'):=jq (λw=>by rw[<-vt];exact Kd _ _);clear vt;go_wp2_with (go_at_call 247;refine (HC.out _).mono ?_;rintro e w' ⟨rfl,rfl⟩);go_ret;exact⟨ag HX.out.symm,HB.out.trans (br.out.mono (by omega))⟩
        | true=>
         have bI:Hid (Np.HostOk x):=jq ⟨by rw[<-aS.out];exact gN.out,by rw[<-aS.out];exact G8.out,by simp[Np.lk] at vt;exact vt,fP.out⟩;have HC:Hid (∀ w,Calls prog 247 #[.int .i64 x.addr] w λe w'=>e = .returned (.bool true)/\w=w'):=jq (λw=>by rw[<-vt];exact Kd _ _);have gM:Hid (mE w.heap.size ((l.take k).map λh=>(h.addr,Value.bool true)) w4):=jq (HM.out.keep br.out cK);obtain⟨BI,IT⟩:=Mg x.addr (l.take k);have iE:=avY (P:=prog) w4 298 3 4 underlying298 underlying3 w.heap.size _ gM.out x.addr (.bool false) (by kernel_rfl);rw[BI] at iE;clear vt BI;by_cases hin:x.addr∈(l.take k).map (·.addr)
         ·have HX:Hid (r=false):=jq (uo.out hin);rw[uQ hin] at iE;clear hin IT;go_wp2_with (go_at_call 247;refine (HC.out _).mono ?_;rintro e w' ⟨rfl,rfl⟩);go_ret;exact⟨ag HX.out.symm,HB.out.trans (br.out.mono (by omega))⟩
         ·have jL:=jq (IT hin);have GC:Hid (((l.take (k+1)).map (·.addr)).Nodup):=jq (by
           rw[HT.out,List.map_append,List.nodup_append];refine⟨zN.out,by simp,λy hy z hz e=>?_⟩;simp at hz;exact hin (by rw[<-hz,<-e];exact hy))
          rw[tQ hin] at iE;clear hin IT;go_wp2_with (first
           | (go_at_call 247;refine (HC.out _).mono ?_;rintro e w' ⟨rfl,rfl⟩)
           | (at_mapUpdate;refine aLZ _ rfl _ _ _ 298 rfl 3 4 underlying298 underlying3 w.heap.size _ rfl gM.out x.addr rfl (.bool true) rfl jL.out ?_;intro w5 ma lA;have H5:=jq (And.intro ma lA);clear ma lA))
          go_roundw
          case rel=>exact⟨k+1,by omega,by go_num,jq ((HB.out.trans (br.out.mono (by omega))).trans (H5.out.2.below (bQ _))),by rw[H5.out.2.size];omega,jq (by rw[HT.out,List.map_append];exact H5.out.1),jq (HN.out bI.out),GC⟩
          case measure=>simp[intOf] <;> omega
   ·go_wp2_with fail;go_ret;refine⟨ag ?_,HB.out⟩;rw[<-HR.out];refine (Np.bO ⟨FC.out,λx hx=>?_,?_⟩).symm
    ·obtain⟨j,hj,rfl⟩:=nQ.1 hx;exact HA.out j _ (by omega) (aQ hj)
    ·have:=zN.out
     rwa [kQ (by omega)] at this
 ·have HX:Hid (r=false):=jq (by rw[<-HR.out];exact Np.aN λq=>vl q.few);have WC:64<l.length:=by omega
  clear vl;go_enter func180,ntmps180;go_wp2_with fail;go_ret;exact⟨ag HX.out.symm,vQ _ _⟩
section
variable {α:Type}
def L6(R:World->Nat->List Value->α->Prop)(B:Nat)(w:World)(f:FuncId)(cap:Array Value)(p:α->Bool)(xs:List α):Prop:=
 ∀ (W:World) (x:α) (e0:Value),x∈xs->Below B w W->B<=W.heap.size->R W B [e0] x->Calls prog f (#[e0]++cap) W λe w'=>e = .returned (.bool (p x))/\Below W.heap.size W w'
theorem ZB{R:World->Nat->List Value->α->Prop}(hK:dl R)(f:FuncId)(eg:∀ args w,(callFunc f args).run prog w = .ok (.enter f args) w)(cap:Array Value)(p:α->Bool)(v:Value)(xs:List α)(w:World)(B:Nat)(hB:B<=w.heap.size)(h:SlR R 1 w B v xs)
 (hp:L6 R B w f cap p xs) :
 Calls prog 319 #[v,.func (.func f) #[] cap] w λe w'=>e = .returned (.int .i64 (lV p xs))/\Below w.heap.size w w':=by
 have H:=jq h;have HP:=jq hp;obtain⟨A,c,rfl,bD,bL,ka⟩:=h;clear ka hp;go_enter func319,ntmps319;go_wp2_with fail;go_loopw [8] (λi wr=>∃ k:Nat,k<=xs.length/\i = .int .i64 k/\Below w.heap.size w wr/\Hid (∀ x∈xs.take k,p x=false)) (λi _=>xs.length - (intOf i).toNat)
 case atStart=>exact⟨0,jQ _,rfl,vQ _ _,jq (by simp)⟩
 case round=>
  obtain⟨k,hk,rfl,hb,HA⟩:=hrel;by_cases aa:k<xs.length
  ·have bU:=hb.mono hB;obtain⟨A',c',hA',_,_,bV⟩:=H.out.keep hK bU
   cases hA'
   obtain⟨b,o,e,rfl,bC,hlen,hce,hR⟩:=bV k _ (aQ aa)
   match e,hlen with
   | [e0],_=>
   have h0:wr.cell? ⟨b,o+k,none⟩=some e0:=by have:=hce 0 _ rfl;simpa using this
   have cL:=HP.out wr xs[k] e0 (List.getElem_mem aa) bU (by have:=hb.size;omega) hR;have HC:=jq cL;have kp:=jq hb;clear bV hce hR cL bU hb;go_wp2_with (fail);refine HC.out.mono ?_;rintro e w2 ⟨rfl,ac⟩;have ak:=jq ac;clear ac;by_cases bw:p xs[k]=true
   ·have HX:=jq bw;go_wp2_with (fail);go_ret;exact⟨ja (M2 p xs k aa HA.out HX.out).symm,kp.out.trans (ak.out.mono kp.out.size)⟩
   ·have Es:p xs[k]=false:=by simpa using bw
    have HX:=jq Es;clear bw;go_wp2_with (fail);go_roundw
    case rel=>
     refine⟨k+1,by omega,by go_num,kp.out.trans (ak.out.mono kp.out.size),jq ?_⟩;rw[fQ aa];intro x hx;rcases List.mem_append.1 hx with h | h
     ·exact HA.out x h
     ·simp at h;subst h;exact HX.out
    case measure=>simp[intOf] <;> omega
  ·go_wp2_with fail;go_ret;exact⟨ja (M4 p xs (by have:=HA.out;rwa [kQ (by omega)] at this)).symm,hb⟩
theorem Vx{R:World->Nat->List Value->α->Prop}(hK:dl R)(f:FuncId)(eg:∀ args w,(callFunc f args).run prog w = .ok (.enter f args) w)(cap:Array Value)(p:α->Bool)(v:Value)(xs:List α)(w:World)(B:Nat)(hB:B<=w.heap.size)(h:SlR R 1 w B v xs)
 (hp:L6 R B w f cap p xs) :
 Calls prog 248 #[v,.func (.func f) #[] cap] w λe w'=>e = .returned (.bool (xs.any p))/\Below w.heap.size w w':=by
 have H:=jq h;have HP:=jq hp;have HE:=jq eg;clear h hp eg;go_enter func248,ntmps248;go_wp2_with (go_at_call 319;refine (ZB hK f HE.out cap p v xs w B hB H.out HP.out).mono ?_;rintro e w' ⟨rfl,hb⟩);go_ret;exact⟨ag (M3 p xs),hb⟩
end
theorem atK(n:Int)(w:World) :
 Calls prog 249 #[.int .i64 n] w λe w'=>e = .returned (.bool (!Np.lk n))/\Below w.heap.size w w':=by
 obtain⟨q,hq⟩:∃ q,Np.lk n=q:=⟨_,rfl⟩;have HC:Hid (∀ w,Calls prog 247 #[.int .i64 n] w λe w'=>e = .returned (.bool q)/\w=w'):=jq (λw=>by rw[<-hq];exact Kd _ _);rw[hq];clear hq
 cases q
 all_goals
  go_enter func249,ntmps249;go_wp2_with (go_at_call 247;refine (HC.out _).mono ?_;rintro e w' ⟨rfl,rfl⟩);go_ret;exact⟨rfl,vQ _ _⟩
theorem aFY(s:ByteArray)(hs:s.size<=140737488355328)(ty life:Int)(dv:Value)(d:List Np.Datum)(hv:Value)(hints:List Int)(w:World)(hR:iP w w.heap.size)(hd:SlR bF 3 w w.heap.size dv d)(hh:SlR gB 1 w w.heap.size hv hints) :
 Calls prog 182 #[.agg #[.string s,.int .i64 ty,.int .i64 life,dv],hv] w λe w'=>e = .returned (.bool (Np.yes (Np.VRoot ⟨s.data.toList,ty,life,d⟩ hints)))/\Below w.heap.size w w':=by
 obtain⟨r,hr⟩:∃ r,Np.yes (Np.VRoot ⟨s.data.toList,ty,life,d⟩ hints)=r:=⟨_,rfl⟩;rw[hr];have HR:=jq hr;have HD:=jq hd;have HH:=jq hh;have gd:=jq hR;obtain⟨A,c,rfl,bD,bL⟩:=al hd;obtain⟨A2,c2,rfl,ew,dF⟩:=al hh;clear hr hd hh hR;have HW:Hid (∀ o,Below w.heap.size w (w.alloc o)):=jq (λo=>(vQ _ w).alloc (bQ _) _);go_enter func182,ntmps182;go_wp2_with fail;refine (QH s hs ty life _ d _ ((gd.out.keep (HW.out _)).more (by simp)) (HD.out.later cH du (HW.out _))).mono ?_;rintro e w1 ⟨rfl,aw⟩;have bh:w.heap.size<w1.heap.size:=by have:=aw.size;simp at this;omega
 have c0:w1.cell? ⟨w.heap.size,0,none⟩=some (.string s):=by rw[aw.cell (by simp)];go_simp
 have c1:w1.cell? ⟨w.heap.size,1,none⟩=some (.int .i64 ty):=by rw[aw.cell (by simp)];go_simp
 have ay:=jq ((HW.out _).trans (aw.mono (by simp)));clear aw;obtain⟨n,hn⟩:∃ n,hints.length=n:=⟨_,rfl⟩;have HN:=jq hn;rw[hn] at HH ew dF |-;clear hn
 cases fk:Np.dj ⟨s.data.toList,ty,life,d⟩ with
 | false=>
  have HX:Hid (r=false):=jq (by rw[<-HR.out];exact Np.aN λq=>by have:=q.set;rw[fk] at this;cases this);clear fk;go_wp2_with fail;go_ret;exact⟨ag HX.out.symm,ay.out⟩
 | true=>
  have jO:=jq fk;clear fk;by_cases h6:ty=6
  ·by_cases mN:s.data.toList = [46]
   ·have vC:(!s.toList == [46])=false:=by rw[dQ,mN];rfl
    have AI:(ty != 6)=false:=by simpa using h6
    have F1:=jq mN;have H6:=jq h6;clear mN h6;by_cases bp:n<1
    ·have HX:Hid (r=false):=jq (by rw[<-HR.out];exact Np.aN λq=>by have:=q.few;rw[HN.out] at this;omega);have g1:decide ((n:Int)<1)=true:=by simp;omega
     clear bp;go_wp2_with fail;go_ret;exact⟨ag HX.out.symm,ay.out⟩
    ·have g1:decide ((n:Int)<1)=false:=by simp;omega
     by_cases yw:8<n
     ·have HX:Hid (r=false):=jq (by rw[<-HR.out];exact Np.aN λq=>by have:=q.few;rw[HN.out] at this;omega);have g2:decide ((8:Int)<(n:Int))=true:=by simp;omega
      clear bp yw;go_wp2_with fail;go_ret;exact⟨ag HX.out.symm,ay.out⟩
     ·have g2:decide ((8:Int)<(n:Int))=false:=by simp;omega
      have im:Hid (1<=n/\n<=8):=jq (by omega);clear bp yw;have eg:∀ args w,(callFunc 249 args).run prog w = .ok (.enter 249 args) w:=enters_of func249 (by kernel_rfl) rfl;have ST:=jq eg;clear eg;go_wp2_with fail;have da:=HH.out.keep lG ay.out;rw[<-HN.out] at da |-;refine (Vx (R:=gB) lG 249 ST.out #[] (λn=>!Np.lk n) _ hints w1 w.heap.size (by omega) da (λW x e0 _ _ _ hx=>by
       have hx : [e0] = [Value.int .i64 x]:=hx
       cases hx
       exact atK x W)).mono ?_
      rintro e w2 ⟨rfl,ac⟩;have ak:=jq (ay.out.trans (ac.mono (by omega)));clear ac;have HQ:Hid ((hints.any λn=>!Np.lk n)=!r):=jq (by
       rw[<-HR.out]
       cases ha:hints.any λn=>!Np.lk n with
       | true=>
        obtain⟨x,hx,hb⟩:=List.any_eq_true.1 ha;rw[Np.aN λq=>?_];rfl
        have:=q.each x hx
        simp[Np.lk] at hb;omega
       | false=>
        rw[Np.bO];rfl;refine⟨jO.out,H6.out,F1.out,by have:=im.out;rw[HN.out];exact this,λx hx=>?_⟩
        have:=List.any_eq_false.1 ha x hx
        simpa [Np.lk] using this)
      rw[HQ.out];clear HQ
      cases r
      all_goals
       go_wp2_with fail;go_ret;exact⟨rfl,ak.out⟩
   ·have HX:Hid (r=false):=jq (by rw[<-HR.out];exact Np.aN λq=>mN q.name);have vC:(!s.toList == [46])=true:=by rw[dQ];simpa using mN
    have AI:(ty != 6)=false:=by simpa using h6
    clear mN h6;go_wp2_with fail;go_ret;exact⟨ag HX.out.symm,ay.out⟩
  ·have HX:Hid (r=false):=jq (by rw[<-HR.out];exact Np.aN λq=>h6 q.type);have AI:(ty != 6)=true:=by simpa using h6
   clear h6;go_wp2_with fail;go_ret;exact⟨ag HX.out.symm,ay.out⟩
theorem arZ(s:ByteArray)(hs:s.size<=140737488355328)(ty life:Int)(dv:Value)(d:List Np.Datum)(hv:Value)(hints:List Int)(w:World)(hd:SlR bF 3 w w.heap.size dv d)(hh:SlR gB 1 w w.heap.size hv hints) :
 Calls prog 88 #[.agg #[.string s,.int .i64 ty,.int .i64 life,dv],hv] w λe w'=>e = .returned (.bool (Np.yes (Np.VRoot ⟨s.data.toList,ty,life,d⟩ hints)))/\Below w.heap.size w w':=by
 obtain⟨r,hr⟩:∃ r,Np.yes (Np.VRoot ⟨s.data.toList,ty,life,d⟩ hints)=r:=⟨_,rfl⟩;rw[hr];have HR:=jq hr;have HD:=jq hd;have HH:=jq hh;obtain⟨A,c,rfl,bD,bL⟩:=al hd;obtain⟨A2,c2,rfl,ew,dF⟩:=al hh;clear hr hd hh;have HW:Hid (∀ o,Below w.heap.size w (w.alloc o)):=jq (λo=>(vQ _ w).alloc (bQ _) _);go_enter func88,ntmps88;go_wp2_with fail;obtain⟨w1,aj⟩:∃ w1,w.alloc (.cells #[.string s,.int .i64 ty,.int .i64 life,.slice A d.length c] 26)=w1:=⟨_,rfl⟩;have c0:w1.cell? ⟨w.heap.size,0,none⟩=some (.string s):=by rw[<-aj];simp[go_sem]
 have c1:w1.cell? ⟨w.heap.size,1,none⟩=some (.int .i64 ty):=by rw[<-aj];simp[go_sem]
 have c2':w1.cell? ⟨w.heap.size,2,none⟩=some (.int .i64 life):=by rw[<-aj];simp[go_sem]
 have c3:w1.cell? ⟨w.heap.size,3,none⟩=some (.slice A d.length c):=by rw[<-aj];simp[go_sem]
 have bh:w1.heap.size=w.heap.size+1:=by rw[<-aj];simp
 have ay:Hid (Below w.heap.size w w1):=jq (by rw[<-aj];exact HW.out _);rw[aj];clear aj;obtain⟨n,hn⟩:∃ n,hints.length=n:=⟨_,rfl⟩;have HN:=jq hn;rw[hn] at HH ew dF |-;clear hn;go_loopw [5] (λi wr=>∃ k:Nat,k<=n/\i = .int .i64 k/\wr=w1/\Hid (∀ j x,j<k->hints[j]?=some x->1<=x/\x<=1000000)) (λi _=>n - (intOf i).toNat)
 case atStart=>exact⟨0,jQ _,rfl,rfl,jq (λj x hj=>by omega)⟩
 case round=>
  obtain⟨k,hk,rfl,rfl,HA⟩:=hrel;by_cases aa:k<n
  ·obtain⟨x,ab⟩:∃ x,hints[k]?=some x:=⟨_,aQ (by rw[HN.out];exact aa)⟩;obtain⟨b,o,rfl,bU,f0⟩:=ZD (HH.out.keep lG ay.out) ab;have dI:Hid (1<=x/\x<=1000000->∀ j y,j<k+1->hints[j]?=some y->1<=y/\y<=1000000):=jq (λh j y hj hy=>by
    by_cases e:j=k
    ·subst e;rw[ab] at hy;cases hy;exact h
    ·exact HA.out j y (by omega) hy)
   have HF:Hid (¬ (1<=x/\x<=1000000)->r=false):=jq (λh=>by rw[<-HR.out];exact Np.aN λq=>h (q.each x (gQ ab)));have bX:(0:Int)<=(k:Int):=by omega
   have bW:(k:Int)<(n:Int):=by omega
   clear ab;by_cases h1:x<1
   ·have HX:=jq (HF.out (by omega));have g1:decide (x<1)=true:=by simpa using h1
    clear h1;go_wp2_with fail;go_ret;exact⟨ag HX.out.symm,ay.out⟩
   ·have g1:decide (x<1)=false:=by simpa using h1
    by_cases h2:1000000<x
    ·have HX:=jq (HF.out (by omega));have g2:decide (1000000<x)=true:=by simpa using h2
     clear h1 h2;go_wp2_with fail;go_ret;exact⟨ag HX.out.symm,ay.out⟩
    ·have HX:=jq (dI.out (by omega));have g2:decide (1000000<x)=false:=by simpa using h2
     clear h1 h2;go_wp2_with fail;go_roundw
     case rel=>exact⟨k+1,by omega,by go_num,by first | rfl | trivial,HX⟩
     case measure=>simp[intOf] <;> omega
  ·have pw:Hid (∀ x∈hints,1<=x/\x<=1000000):=jq (λx hx=>by
    obtain⟨j,hj,rfl⟩:=nQ.1 hx;exact HA.out j _ (by have:=HN.out;omega) (aQ hj))
   go_wp2_with fail;refine (QM s hs ty life _ d _ (HD.out.later cH du ay.out)).mono ?_;rintro e w2 ⟨rfl,ac⟩;have aM:=ac.size;replace c0:w2.cell? ⟨w.heap.size,0,none⟩=some (.string s):=(ac.cell (by dsimp only;omega)).trans c0;replace c1:w2.cell? ⟨w.heap.size,1,none⟩=some (.int .i64 ty):=(ac.cell (by dsimp only;omega)).trans c1;have ak:=jq (ay.out.trans (ac.mono (by omega)));clear ac c2' c3
   cases fk:Np.dj ⟨s.data.toList,ty,life,d⟩ with
   | false=>
    have HX:Hid (r=false):=jq (by rw[<-HR.out];exact Np.aN λq=>by have:=q.set;rw[fk] at this;cases this);clear fk;go_wp2_with fail;go_ret;exact⟨ag HX.out.symm,ak.out⟩
   | true=>
    have jO:=jq fk;clear fk;by_cases h6:ty=6
    ·by_cases mN:s.data.toList = [46]
     ·have vC:(s.toList == [46])=true:=by rw[dQ,mN];rfl
      have AI:(ty == 6)=true:=by simpa using h6
      have F1:=jq mN;have H6:=jq h6;clear mN h6;by_cases bp:1<=n
      ·have g1:decide ((1:Int)<=(n:Int))=true:=by simp;omega
       by_cases yw:n<=8
       ·have HX:Hid (r=true):=jq (by rw[<-HR.out];exact Np.bO ⟨jO.out,H6.out,F1.out,by rw[HN.out];exact⟨bp,yw⟩,pw.out⟩);have g2:decide ((n:Int)<=8)=true:=by simp;omega
        clear bp yw;go_wp2_with fail;go_ret;exact⟨ag HX.out.symm,ak.out⟩
       ·have HX:Hid (r=false):=jq (by rw[<-HR.out];exact Np.aN λq=>by have:=q.few;rw[HN.out] at this;omega);have g2:decide ((n:Int)<=8)=false:=by simp;omega
        clear bp yw;go_wp2_with fail;go_ret;exact⟨ag HX.out.symm,ak.out⟩
      ·have HX:Hid (r=false):=jq (by rw[<-HR.out];exact Np.aN λq=>by have:=q.few;rw[HN.out] at this;omega);have g1:decide ((1:Int)<=(n:Int))=false:=by simp;omega
       clear bp;go_wp2_with fail;go_ret;exact⟨ag HX.out.symm,ak.out⟩
     ·have HX:Hid (r=false):=jq (by rw[<-HR.out];exact Np.aN λq=>mN q.name);have vC:(s.toList == [46])=false:=by rw[dQ];simpa using mN
      have AI:(ty == 6)=true:=by simpa using h6
      clear mN h6;go_wp2_with fail;go_ret;exact⟨ag HX.out.symm,ak.out⟩
    ·have HX:Hid (r=false):=jq (by rw[<-HR.out];exact Np.aN λq=>h6 q.type);have AI:(ty == 6)=false:=by simpa using h6
     clear h6;go_wp2_with fail;go_ret;exact⟨ag HX.out.symm,ak.out⟩
theorem aqJ(v:Value)(l:List Np.Host)(w:World)(hd:SlR gz 3 w w.heap.size v l) :
 Calls prog 87 #[v] w λe w'=>e = .returned (.bool (Np.yes (Np.VHosts l)))/\Below w.heap.size w w':=by
 obtain⟨r,hr⟩:∃ r,Np.yes (Np.VHosts l)=r:=⟨_,rfl⟩;rw[hr];have HR:=jq hr;have HD:=jq hd;obtain⟨A,c,rfl,bD,bL⟩:=al hd;clear hr hd;by_cases vl:l.length<=64
 ·have FC:=jq vl;go_enter func87,ntmps87;go_wp2_with fail;go_loopw [3] (λi wr=>∃ k:Nat,k<=l.length/\i = .int .i64 k/\Hid (Below w.heap.size w wr)/\Hid (∀ j x,j<k->l[j]?=some x->Np.HostOk x)/\Hid (((l.take k).map (·.addr)).Nodup)) (λi _=>l.length - (intOf i).toNat)
  case atStart=>exact⟨0,jQ _,rfl,jq (vQ _ _),jq (λj x hj=>by omega),jq (by simp)⟩
  case round=>
   obtain⟨k,hk,rfl,HB,HA,zN⟩:=hrel;have cK:=HB.out.size;by_cases aa:k<l.length
   ·obtain⟨x,ab⟩:∃ x,l[k]?=some x:=⟨_,aQ aa⟩;obtain⟨b,o,sn,rfl,bU,aF,cx,f0,f1,f2⟩:=BT (HD.out.keep km HB.out) ab;have ht:l.take (k+1)=l.take k ++ [x]:=by
     obtain⟨hl,he⟩:=cQ.1 ab;rw[fQ hl,he]
    have HT:=jq ht;have HN:Hid (Np.HostOk x->∀ j y,j<k+1->l[j]?=some y->Np.HostOk y):=jq (λh j y hj hy=>by
     by_cases e:j=k
     ·subst e;rw[ab] at hy;cases hy;exact h
     ·exact HA.out j y (by omega) hy)
    have HF:Hid (¬ Np.HostOk x->r=false):=jq (λh=>by rw[<-HR.out];exact Np.aN λq=>h (q.each x (gQ ab)));have uo:Hid (x.addr∈(l.take k).map (·.addr)->r=false):=jq (λh=>by
     rw[<-HR.out];refine Np.aN λq=>?_;have h1:=q.addrs;have h2:(l.take (k+1)).map (·.addr) <+: l.map (·.addr):=by rw[List.map_take];exact List.take_prefix _ _
     have h3:=h1.sublist h2.sublist;rw[ht,List.map_append,List.nodup_append] at h3;exact h3.2.2 x.addr h x.addr (by simp) rfl)
    have aS:=jq aF;have fB:Hid (∀ o,Below wr.heap.size wr (wr.alloc o)):=jq (λo=>(vQ _ _).alloc (bQ _) _);obtain⟨w2,ae⟩:∃ w2,wr.alloc (.cells #[.string sn,.int .i64 x.addr,.int .i64 x.owner] 101)=w2:=⟨_,rfl⟩;have ac:Below wr.heap.size wr w2:=by rw[<-ae];exact fB.out _
    have p0:w2.cell? ⟨wr.heap.size,0,none⟩=some (.string sn):=by rw[<-ae];simp[go_sem]
    have p1:w2.cell? ⟨wr.heap.size,1,none⟩=some (.int .i64 x.addr):=by rw[<-ae];simp[go_sem]
    have p2:w2.cell? ⟨wr.heap.size,2,none⟩=some (.int .i64 x.owner):=by rw[<-ae];simp[go_sem]
    have aM:wr.heap.size<w2.heap.size:=by rw[<-ae];simp
    have ak:=jq ac;have bX:(0:Int)<=(k:Int):=by omega
    have bW:(k:Int)<(l.length:Int):=by omega
    clear ab aF ht ac;go_wp2_with fail;clear ae f0 f1 f2;refine (yW sn cx _).mono ?_;rintro e w3 ⟨rfl,am⟩;have dP:=am.size;have az:=jq (ak.out.trans (am.mono (by omega)));replace p0:w3.cell? ⟨wr.heap.size,0,none⟩=some (.string sn):=(am.cell (by simpa using aM)).trans p0;replace p1:w3.cell? ⟨wr.heap.size,1,none⟩=some (.int .i64 x.addr):=(am.cell (by simpa using aM)).trans p1;replace p2:w3.cell? ⟨wr.heap.size,2,none⟩=some (.int .i64 x.owner):=(am.cell (by simpa using aM)).trans p2;clear am
    cases kM:Np.aG sn.data.toList with
    | false=>
     have HX:Hid (r=false):=jq (HF.out λh=>by have:=h.name;rw[<-aS.out,kM] at this;cases this);clear kM;go_wp2_with fail;go_ret;exact⟨ag HX.out.symm,HB.out.trans (az.out.mono (by omega))⟩
    | true=>
     have gN:=jq kM;clear kM;go_wp2_with fail;refine (QP sn gN.out _).mono ?_;rintro e w4 ⟨rfl,ar⟩;have eC:=ar.size;have br:=jq (az.out.trans (ar.mono (by omega)));replace p1:w4.cell? ⟨wr.heap.size,1,none⟩=some (.int .i64 x.addr):=(ar.cell (by dsimp only;omega)).trans p1;replace p2:w4.cell? ⟨wr.heap.size,2,none⟩=some (.int .i64 x.owner):=(ar.cell (by dsimp only;omega)).trans p2;clear ar p0
     cases rU:Np.eh sn.data.toList with
     | true=>
      have HX:Hid (r=false):=jq (HF.out λh=>by have:=h.wild;rw[<-aS.out,rU] at this;cases this);clear rU;go_wp2_with fail;go_ret;exact⟨ag HX.out.symm,HB.out.trans (br.out.mono (by omega))⟩
     | false=>
      have G8:=jq rU;clear rU;have rt:decide (x.addr<1)=true\/decide (x.addr<1)=false/\(decide (1000000<x.addr)=true\/decide (1000000<x.addr)=false/\(decide (x.owner<0)=true\/decide (x.owner<0)=false/\(decide (31<x.owner)=true\/decide (31<x.owner)=false))):=by
       simp only[Qa,decide_eq_false_iff_not];omega
      rcases rt with d1 | ⟨d1,d2 | ⟨d2,d3 | ⟨d3,d4 | d4⟩⟩⟩
      rotate_right
      ·have bI:Hid (Np.HostOk x):=jq (by
        simp only[decide_eq_false_iff_not] at d1 d2 d3 d4;exact⟨by rw[<-aS.out];exact gN.out,by rw[<-aS.out];exact G8.out,by omega,by omega⟩)
       go_wp2_with fail;obtain⟨wo,rfl⟩:∃ wo,wo=wr:=⟨_,rfl⟩;go_loopw [6] (λi wx=>∃ m:Nat,m<=k/\i = .int .i64 m/\Hid (Below w4.heap.size w4 wx)/\Hid (∀ j y,j<m->l[j]?=some y->y.addr≠x.addr)) (λi _=>k - (intOf i).toNat)
       case atStart=>exact⟨0,jQ _,rfl,jq (vQ _ _),jq (λj y hj=>by omega)⟩
       case round=>
        obtain⟨m,hm,rfl,dw,HX⟩:=hrel;have hzx:=dw.out.size;have q1:wr.cell? ⟨wo.heap.size,1,none⟩=some (.int .i64 x.addr):=(dw.out.cell (by dsimp only;omega)).trans p1;have aU:Hid (Below wo.heap.size wo wr):=jq (br.out.trans (dw.out.mono (by omega)));by_cases yq:m<k
        ·obtain⟨y,dW⟩:∃ y,l[m]?=some y:=⟨_,aQ (by omega)⟩;obtain⟨b9,o9,sy,Nk,_,_,_,_,g1,_⟩:=BT (HD.out.keep km (HB.out.trans (aU.out.mono (by omega)))) dW;simp only[Option.some.injEq,Addr.mk.injEq,and_true] at Nk;obtain⟨rfl,rfl⟩:=Nk;have iU:(0:Int)<=(m:Int):=by omega
         have IY:(m:Int)<(l.length:Int):=by omega
         have fX:decide ((m:Int)<(k:Int))=true:=by simp;omega
         by_cases he:y.addr=x.addr
         ·have HY:Hid (r=false):=jq (uo.out (List.mem_map.2 ⟨y,List.mem_iff_getElem?.2 ⟨m,by rw[List.getElem?_take,Qb yq];exact dW⟩,he⟩));have ge:(y.addr == x.addr)=true:=by simpa using he
          clear he dW;go_wp2_with fail;go_quiet (fail);go_wp2_with fail;go_ret;exact⟨ag HY.out.symm,below_drewN (HB.out.trans (aU.out.mono (by omega))) _⟩
         ·have HY:Hid (∀ j z,j<m+1->l[j]?=some z->z.addr≠x.addr):=jq (λj z hj hz=>by
           by_cases e:j=m
           ·subst e;rw[dW] at hz;cases hz;exact he
           ·exact HX.out j z (by omega) hz)
          have ge:(y.addr == x.addr)=false:=by simpa using he
          clear he dW;go_wp2_with fail;go_quiet (fail);go_wp2_with fail;go_roundw
          case rel=>exact⟨m+1,by omega,by go_num,jq (below_drewN dw.out _),HY⟩
          case measure=>simp[intOf] <;> omega
        ·have fX:decide ((m:Int)<(k:Int))=false:=by simp;omega
         have GC:Hid (((l.take (k+1)).map (·.addr)).Nodup):=jq (by
          rw[HT.out,List.map_append,List.nodup_append];refine⟨zN.out,by simp,λy hy z hz e=>?_⟩;simp at hz;obtain⟨u,hu,yG⟩:=List.mem_map.1 hy;obtain⟨j,hj,rfl⟩:=nQ.1 hu;rw[List.length_take] at hj;rw[List.getElem_take] at yG;exact HX.out j _ (by omega) (aQ (by omega)) (by rw[yG,e,hz]))
         go_wp2_with fail;go_roundw
         case rel=>exact⟨k+1,by omega,by go_num,jq (HB.out.trans (aU.out.mono (by omega))),jq (HN.out bI.out),GC⟩
         case measure=>simp[intOf] <;> omega
      all_goals
       have HX:Hid (r=false):=jq (HF.out λh=>by
        have h1:=h.addr;have h2:=h.owner;simp only[Qa,decide_eq_false_iff_not] at *;omega)
       go_wp2_with fail;go_ret;exact⟨ag HX.out.symm,HB.out.trans (br.out.mono (by omega))⟩
   ·go_wp2_with fail;go_ret;refine⟨ag ?_,HB.out⟩;rw[<-HR.out];refine (Np.bO ⟨FC.out,λx hx=>?_,?_⟩).symm
    ·obtain⟨j,hj,rfl⟩:=nQ.1 hx;exact HA.out j _ (by omega) (aQ hj)
    ·have:=zN.out
     rwa [kQ (by omega)] at this
 ·have HX:Hid (r=false):=jq (by rw[<-HR.out];exact Np.aN λq=>vl q.few);have WC:64<l.length:=by omega
  clear vl;go_enter func87,ntmps87;go_wp2_with fail;go_ret;exact⟨ag HX.out.symm,vQ _ _⟩
theorem Fd{α:Type}{R:World->Nat->List Value->α->Prop}{sz n c:Nat}{w:World}{B:Nat}{xs:List α}(h:SlR R sz w B (.slice none n c) xs):n=0/\xs = []:=by
 obtain⟨A',c',hA',_,_,bV⟩:=h;simp only[Value.slice.injEq] at hA';obtain⟨rfl,rfl,rfl⟩:=hA'
 cases xs with
 | nil=>exact⟨rfl,rfl⟩
 | cons x xs=>
  obtain⟨b,o,e,hA,_⟩:=bV 0 x rfl
  cases hA
theorem Tryz.infoCloneDatum:(prog.info? 128).map (λi=>(i.zero,i.size,i.bytes))=some (some (.agg #[.string ⟨#[]⟩,.int .i64 0,.int .i64 0]),3,32):=by kernel_rfl
theorem Mz(v:Value)(xs:List Np.Datum)(hl:xs.length<=1000000)(w:World)(h:SlR bF 3 w w.heap.size v xs) :
 Calls prog 68 #[v] w λe w'=>∃ v',e = .returned v'/\bn bF 3 128 w.heap.size w.heap.size w' v' xs/\Below w.heap.size w w':=by
 have HD:=jq h;obtain⟨A,c,rfl,bD,bL⟩:=al h;clear h;have heq:=run_eql_slice_nil (P:=prog) w 24 128 A xs.length c underlying24;have bg:Hid (Below w.heap.size w (w.alloc (.cells #[] 128))):=jq ((vQ _ _).alloc (bQ _) _);obtain⟨i0,hi,dZ,bh,aM⟩:=info_parts Tryz.infoCloneDatum
 cases A with
 | none=>
  obtain⟨hn,rfl⟩:=Fd HD.out;rw[List.length_nil] at heq |-;simp only[Option.isNone_none] at heq;go_enter func68,ntmps68;go_wp2_with fail;go_ret;exact⟨_,rfl,bn.nil _,vQ _ _⟩
 | some ad=>
  go_enter func68,ntmps68;go_wp2_with (at_builtin;refine Fr (R:=bF) (sz:=3) _ rfl _ _ 24 rfl w.heap.size w.heap.size 128 i0 (.agg #[.string ⟨#[]⟩,.int .i64 0,.int .i64 0]) 32 underlying24 hi dZ bh aM rfl (by decide) _ [] rfl (bn.empty w (bQ _)) (some ad) c w.heap.size xs rfl (HD.out.keep cH bg.out) (λr y h=>by (obtain⟨s,_,_,rfl⟩:=h;intro u hu;simp at hu;try rcases hu with rfl | rfl | rfl | rfl | rfl | rfl <;> rfl)) (by simp[maxLen];omega) (by simp;omega) (by simp) (bQ _) (bQ _) cH du ?_;intro v3 w3 ke am pX;have H3:=jq (And.intro ke (bg.out.trans am));clear ke am pX);go_ret;exact⟨_,rfl,H3.out.1,H3.out.2⟩
theorem Tryz.infoCloneSig:(prog.info? 50).map (λi=>(i.zero,i.size,i.bytes))=some (some (.agg #[.string ⟨#[]⟩,.int .i64 0,.int .i64 0,.int .i64 0,.int .i64 0,.int .u64 0]),6,56):=by kernel_rfl
theorem Vp(v:Value)(xs:List Np.Sig)(hl:xs.length<=1000000)(w:World)(h:SlR dm 6 w w.heap.size v xs) :
 Calls prog 142 #[v] w λe w'=>∃ v',e = .returned v'/\bn dm 6 50 w.heap.size w.heap.size w' v' xs/\Below w.heap.size w w':=by
 have HD:=jq h;obtain⟨A,c,rfl,bD,bL⟩:=al h;clear h;have heq:=run_eql_slice_nil (P:=prog) w 40 50 A xs.length c underlying40;have bg:Hid (Below w.heap.size w (w.alloc (.cells #[] 50))):=jq ((vQ _ _).alloc (bQ _) _);obtain⟨i0,hi,dZ,bh,aM⟩:=info_parts Tryz.infoCloneSig
 cases A with
 | none=>
  obtain⟨hn,rfl⟩:=Fd HD.out;rw[List.length_nil] at heq |-;simp only[Option.isNone_none] at heq;go_enter func142,ntmps142;go_wp2_with fail;go_ret;exact⟨_,rfl,bn.nil _,vQ _ _⟩
 | some ad=>
  go_enter func142,ntmps142;go_wp2_with (at_builtin;refine Fr (R:=dm) (sz:=6) _ rfl _ _ 40 rfl w.heap.size w.heap.size 50 i0 (.agg #[.string ⟨#[]⟩,.int .i64 0,.int .i64 0,.int .i64 0,.int .i64 0,.int .u64 0]) 56 underlying40 hi dZ bh aM rfl (by decide) _ [] rfl (bn.empty w (bQ _)) (some ad) c w.heap.size xs rfl (HD.out.keep dH bg.out) (λr y h=>by (obtain⟨s,_,_,rfl⟩:=h;intro u hu;simp at hu;try rcases hu with rfl | rfl | rfl | rfl | rfl | rfl <;> rfl)) (by simp[maxLen];omega) (by simp;omega) (by simp) (bQ _) (bQ _) dH fz ?_;intro v3 w3 ke am pX;have H3:=jq (And.intro ke (bg.out.trans am));clear ke am pX);go_ret;exact⟨_,rfl,H3.out.1,H3.out.2⟩
theorem Tryz.infoCloneHost:(prog.info? 101).map (λi=>(i.zero,i.size,i.bytes))=some (some (.agg #[.string ⟨#[]⟩,.int .i64 0,.int .i64 0]),3,32):=by kernel_rfl
theorem Vn(v:Value)(xs:List Np.Host)(hl:xs.length<=1000000)(w:World)(h:SlR gz 3 w w.heap.size v xs) :
 Calls prog 66 #[v] w λe w'=>∃ v',e = .returned v'/\bn gz 3 101 w.heap.size w.heap.size w' v' xs/\Below w.heap.size w w':=by
 have HD:=jq h;obtain⟨A,c,rfl,bD,bL⟩:=al h;clear h;have heq:=run_eql_slice_nil (P:=prog) w 22 101 A xs.length c underlying22;have bg:Hid (Below w.heap.size w (w.alloc (.cells #[] 101))):=jq ((vQ _ _).alloc (bQ _) _);obtain⟨i0,hi,dZ,bh,aM⟩:=info_parts Tryz.infoCloneHost
 cases A with
 | none=>
  obtain⟨hn,rfl⟩:=Fd HD.out;rw[List.length_nil] at heq |-;simp only[Option.isNone_none] at heq;go_enter func66,ntmps66;go_wp2_with fail;go_ret;exact⟨_,rfl,bn.nil _,vQ _ _⟩
 | some ad=>
  go_enter func66,ntmps66;go_wp2_with (at_builtin;refine Fr (R:=gz) (sz:=3) _ rfl _ _ 22 rfl w.heap.size w.heap.size 101 i0 (.agg #[.string ⟨#[]⟩,.int .i64 0,.int .i64 0]) 32 underlying22 hi dZ bh aM rfl (by decide) _ [] rfl (bn.empty w (bQ _)) (some ad) c w.heap.size xs rfl (HD.out.keep km bg.out) (λr y h=>by (obtain⟨s,_,_,rfl⟩:=h;intro u hu;simp at hu;try rcases hu with rfl | rfl | rfl | rfl | rfl | rfl <;> rfl)) (by simp[maxLen];omega) (by simp;omega) (by simp) (bQ _) (bQ _) km sh ?_;intro v3 w3 ke am pX;have H3:=jq (And.intro ke (bg.out.trans am));clear ke am pX);go_ret;exact⟨_,rfl,H3.out.1,H3.out.2⟩
theorem Tryz.infoCloneInt:(prog.info? 3).map (λi=>(i.zero,i.size,i.bytes))=some (some (.int .i64 0),1,8):=by kernel_rfl
theorem Vo(v:Value)(xs:List Int)(hl:xs.length<=1000000)(w:World)(h:SlR gB 1 w w.heap.size v xs) :
 Calls prog 67 #[v] w λe w'=>∃ v',e = .returned v'/\bn gB 1 3 w.heap.size w.heap.size w' v' xs/\Below w.heap.size w w':=by
 have HD:=jq h;obtain⟨A,c,rfl,bD,bL⟩:=al h;clear h;have heq:=run_eql_slice_nil (P:=prog) w 27 3 A xs.length c underlying27;have bg:Hid (Below w.heap.size w (w.alloc (.cells #[] 3))):=jq ((vQ _ _).alloc (bQ _) _);obtain⟨i0,hi,dZ,bh,aM⟩:=info_parts Tryz.infoCloneInt
 cases A with
 | none=>
  obtain⟨hn,rfl⟩:=Fd HD.out;rw[List.length_nil] at heq |-;simp only[Option.isNone_none] at heq;go_enter func67,ntmps67;go_wp2_with fail;go_ret;exact⟨_,rfl,bn.nil _,vQ _ _⟩
 | some ad=>
  go_enter func67,ntmps67;go_wp2_with (at_builtin;refine Fr (R:=gB) (sz:=1) _ rfl _ _ 27 rfl w.heap.size w.heap.size 3 i0 (.int .i64 0) 8 underlying27 hi dZ bh aM rfl (by decide) _ [] rfl (bn.empty w (bQ _)) (some ad) c w.heap.size xs rfl (HD.out.keep lG bg.out) (λr y h=>by (obtain rfl:=h;intro u hu;simp at hu;try rcases hu with rfl | rfl | rfl | rfl | rfl | rfl <;> rfl)) (by simp[maxLen];omega) (by simp;omega) (by simp) (bQ _) (bQ _) lG sj ?_;intro v3 w3 ke am pX;have H3:=jq (And.intro ke (bg.out.trans am));clear ke am pX);go_ret;exact⟨_,rfl,H3.out.1,H3.out.2⟩
end
end Go.Proofs.YtfnopgdcaanaiaaGreatDoor
