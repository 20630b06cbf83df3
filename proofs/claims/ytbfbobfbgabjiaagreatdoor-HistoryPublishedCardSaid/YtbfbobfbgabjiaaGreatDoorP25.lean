/- Parts of the proof. No condition. -/
import Derived.Test.YtbfbobfbgabjiaaGreatDoorP22
set_option linter.all false
set_option maxRecDepth 100000
set_option maxHeartbeats 8000000
namespace Go.Proofs.YtbfbobfbgabjiaaGreatDoor
open Go.Proofs.Tryz
section
open Go.RowKit Go.Shelf
attribute [local go_sem] Oper.semAt_some
structure CV where
 host:Int
 frm:Int
 til:Int
 str:ByteArray
 A:Option Addr
 n:Nat
 c:Nat
def CV.cells(x:CV):Array Value:=#[.int .i64 x.host,.int .i64 x.frm,.int .i64 x.til,.string x.str,.slice x.A x.n x.c]
structure CVOf(w:World)(B:Nat)(x:CV)(c:Np.Copy):Prop where
 host:x.host=c.host
 frm:x.frm=c.frm
 til:x.til=c.til
 apex:x.str.data.toList=c.zone.apex
 size:x.str.size<=140737488355328
 sets:SlR bC 5 w B (.slice x.A x.n x.c) c.zone.sets
 len:c.zone.sets.length=x.n
theorem CVOf.keep{w w':World}{B:Nat}{x:CV}{c:Np.Copy}(h:CVOf w B x c)(hb:Below B w w'):CVOf w' B x c:=⟨h.host,h.frm,h.til,h.apex,h.size,h.sets.keep aN hb,h.len⟩
theorem CVOf.more{w:World}{B B':Nat}{x:CV}{c:Np.Copy}(h:CVOf w B x c)(hb:B<=B'):CVOf w B' x c:=⟨h.host,h.frm,h.til,h.apex,h.size,h.sets.more bN hb,h.len⟩
theorem It{w:World}{B n c:Nat}{A:Option Addr}{xs:List Np.Copy}(h:SlR dD 5 w B (.slice A n c) xs):∃ L:List (CV×Np.Copy),L.map (·.2)=xs/\L.length=n/\∀ i x,L[i]?=some x->CVOf w B x.1 x.2/\∃ b o,A=some ⟨b,o,none⟩/\b<B/\cR w b (o+i * 5) x.1.cells.toList:=by
 have hn:n=xs.length:=by
  obtain⟨A',c',hA,_,_,_⟩:=h;simp only[Value.slice.injEq] at hA;exact hA.2.1
 have az:∀ k,k<=xs.length->∃ L:List (CV×Np.Copy),L.map (·.2)=xs.take k/\∀ i x,L[i]?=some x->CVOf w B x.1 x.2/\∃ b o,A=some ⟨b,o,none⟩/\b<B/\cR w b (o+i * 5) x.1.cells.toList:=by
  intro k
  induction k with
  | zero=>exact λ_=>⟨[],by simp,λi x hx=>by simp at hx⟩
  | succ k ih=>
   intro hk;obtain⟨L,h1,h2⟩:=ih (by omega);have hlen:L.length=k:=by have:=Qd List.length h1; simp at this; omega
   obtain⟨b,o,s,v,hA,hb,hs,am,hv,f0,f1,f2,f3,f4⟩:=rI h (aQ (by omega:k<xs.length));obtain⟨Az,cz,rfl,_,_⟩:=ah hv;refine⟨L ++ [(⟨xs[k].host,xs[k].frm,xs[k].til,s,Az,xs[k].zone.sets.length,cz⟩,xs[k])],by rw[List.map_append,h1,fQ (by omega)]; rfl,λi x hx=>?_⟩;rcases Nat.lt_or_ge i L.length with aa | qC
   ·rw[List.getElem?_append_left aa] at hx;exact h2 i x hx
   ·rw[oQ qC] at hx;have h0:i - L.length=0:=by have:=(cQ.1 hx).1; simp at this; omega
    rw[h0] at hx;simp at hx;subst hx;obtain rfl:i=k:=by omega
    refine⟨⟨rfl,rfl,rfl,hs,am,hv,rfl⟩,b,o,hA,hb,λj u hj=>?_⟩
    match j,hj with
    | 0,hj=>simp[CV.cells] at hj; subst hj; exact f0
    | 1,hj=>simp[CV.cells] at hj; subst hj; exact f1
    | 2,hj=>simp[CV.cells] at hj; subst hj; exact f2
    | 3,hj=>simp[CV.cells] at hj; subst hj; exact f3
    | 4,hj=>simp[CV.cells] at hj; subst hj; exact f4
    | j+5,hj=>simp[CV.cells] at hj
 obtain⟨L,h1,h2⟩:=az xs.length (bQ _);rw[List.take_length] at h1;exact⟨L,h1,by rw[hn,<-h1,List.length_map],h2⟩
theorem Io(a1 a2 a3 a4 a5 a6 a7 a8 a9:Value)(pf:FuncId)(caps:Array Value)(w:World) :
 Calls prog 45 #[.agg #[a1,a2,a3,a4,a5,a6,a7,a8,a9],.func (.func pf) #[] caps] w λe w'=>e = .returned (.func (.func 91) #[] #[.pointer (some ⟨w.heap.size,0,none⟩),.pointer (some ⟨w.heap.size+1,0,none⟩)])/\w'=(w.alloc (.cells #[a1,a2,a3,a4,a5,a6,a7,a8,a9] 29)).alloc (.cells #[.func (.func pf) #[] caps] 100):=by
 go_enter func45,ntmps45;go_wp2_with fail;go_ret;exact⟨rfl,rfl⟩
theorem aJZ{α:Type}{p:α->Bool}{L:List α}{k:Nat}{x:α}(hx:L[k]?=some x):(L.take (k+1)).filter p=if p x then (L.take k).filter p ++ [x] else (L.take k).filter p:=by
 obtain⟨hl,he⟩:=cQ.1 hx;rw[fQ hl,he,List.filter_append]
 cases h:p x <;> simp[h]
theorem aJJ{α:Type}(p:α->Bool)(L:List α)(k:Nat):(L.take k).filter p <+: L.filter p:=by
 conv => rhs; rw[<-List.take_append_drop k L]
 rw[List.filter_append];exact List.prefix_append _ _
theorem Ip(L:List (CV×Np.Copy))(p:CV×Np.Copy->Bool)(pf:FuncId)(caps:Array Value)(X Ob n c:Nat)(Dr:Nat->Prop)(A:Option Addr)(w:World)(hX:Dr X)(hO:Dr Ob)(kX:w.cell? ⟨X,1,none⟩=some (.slice A n c))(kO:w.cell? ⟨Ob,0,none⟩=some (.func (.func pf) #[] caps))(N9:L.length=n)(O9:n<=500)
 (hL:∀ i x,L[i]?=some x->∃ b o,A=some ⟨b,o,none⟩/\Dr b/\cR w b (o+i * 5) x.1.cells.toList) (eg:∀ args w,(callFunc pf args).run prog w = .ok (.enter pf args) w)
 (hp:∀ x∈L,∀ W,fL Dr w W->Calls prog pf (#[.agg x.1.cells]++caps) W λe W'=>e = .returned (.bool (p x))/\Below W.heap.size W W') :
 Ia prog 91 (λy=>#[y,.pointer (some ⟨X,0,none⟩),.pointer (some ⟨Ob,0,none⟩)]) (λx:CV×Np.Copy=>#[.agg x.1.cells]) (L.filter p) Dr w:=by
 intro l J Jx S W hW hJ N8 hY hS hS' h0;have k1:=(hW.cell (p:=⟨X,1,none⟩) hX).trans kX;have HW:=jq hW;have HL:=jq hL;have HP:=jq hp;have n7:=jq N9;have KO:=jq kO;have ym:=hW.1;clear hW hL hp kX N9 kO;refine callsIn_of_wp func91 rfl trivial ?_ rfl;simp only[ntmps91,List.size_toArray,List.length_cons,List.length_nil,Nat.reduceAdd,Nat.reduceSub,Array.replicate_succ,Array.replicate_zero,List.push_toArray,List.append_toArray,List.nil_append,List.cons_append];gi_wp2_with fail;gi_loopw [9] (λi wr=>∃ (k:Nat) (S1:Nat->Prop),k<=n/\i = .int .i64 k/\J ((L.take k).filter p) S1 wr/\(∀ k,S1 k->k<wr.heap.size)/\(∀ k,S1 k->S k\/W.heap.size<=k)/\Hid (fL Dr w wr)/\W.heap.size<=wr.heap.size) (λi _=>n - (intOf i).toNat)
 case atStart=>exact⟨0,S,jQ _,rfl,by simpa using h0,hS',λ_ e=>.inl e,HW,bQ _⟩
 case round=>
  obtain⟨k,S1,hk,rfl,hj,ep,bD,bO,am⟩:=hrel;by_cases aa:k<n
  ·obtain⟨x,ac⟩:∃ x,L[k]?=some x:=⟨_,aQ (by rw[n7.out]; exact aa)⟩;obtain⟨b,o,rfl,hb,hce⟩:=HL.out k x ac;have lB:fL Dr w wr:=bO.out;obtain⟨⟨xh,xf,xt,xs,xA,xn,xc⟩,cc⟩:=x;have f0:wr.cell? ⟨b,o+k * 5,none⟩=some (.int .i64 xh):=(lB.cell (p:=⟨b,o+k * 5,none⟩) hb).trans (hce 0 _ rfl);have f1:wr.cell? ⟨b,o+k * 5+1,none⟩=some (.int .i64 xf):=(lB.cell (p:=⟨b,o+k * 5+1,none⟩) hb).trans (hce 1 _ rfl);have f2:wr.cell? ⟨b,o+k * 5+2,none⟩=some (.int .i64 xt):=(lB.cell (p:=⟨b,o+k * 5+2,none⟩) hb).trans (hce 2 _ rfl);have f3:wr.cell? ⟨b,o+k * 5+3,none⟩=some (.string xs):=(lB.cell (p:=⟨b,o+k * 5+3,none⟩) hb).trans (hce 3 _ rfl);have f4:wr.cell? ⟨b,o+k * 5+4,none⟩=some (.slice xA xn xc):=(lB.cell (p:=⟨b,o+k * 5+4,none⟩) hb).trans (hce 4 _ rfl);have xI:=jq ac;clear hce ac;have bH:(0:Int)<=(k:Int):=by omega
   have bG:(k:Int)<(n:Int):=by omega
   obtain⟨w2,aj⟩:∃ w2,wr.alloc (.cells #[.int .i64 xh,.int .i64 xf,.int .i64 xt,.string xs,.slice xA xn xc] 58)=w2:=⟨_,rfl⟩;have aM:w2.heap.size=wr.heap.size+1:=by rw[<-aj]; simp
   have ab:Below wr.heap.size wr w2:=by rw[<-aj]; exact (vQ _ _).alloc (bQ _) _
   have p0:w2.cell? ⟨wr.heap.size,0,none⟩=some (.int .i64 xh):=by rw[<-aj]; simp[go_sem]
   have p1:w2.cell? ⟨wr.heap.size,1,none⟩=some (.int .i64 xf):=by rw[<-aj]; simp[go_sem]
   have p2:w2.cell? ⟨wr.heap.size,2,none⟩=some (.int .i64 xt):=by rw[<-aj]; simp[go_sem]
   have p3:w2.cell? ⟨wr.heap.size,3,none⟩=some (.string xs):=by rw[<-aj]; simp[go_sem]
   have p4:w2.cell? ⟨wr.heap.size,4,none⟩=some (.slice xA xn xc):=by rw[<-aj]; simp[go_sem]
   have J8:fL Dr w w2:=lB.of_below ab;have qO:=(J8.cell (p:=⟨Ob,0,none⟩) hO).trans KO.out;have al:=jq ab;have fh:=jq J8;clear lB ab J8;gi_wp2_with fail;refine⟨trivial,rfl,?_⟩;refine (callsIn_wide.2 (HP.out _ (gQ xI.out) w2 fh.out)).mono ?_;rintro e w3 ⟨rfl,ag⟩;replace p0:=(cl ag (by omega)).trans p0;replace p1:=(cl ag (by omega)).trans p1;replace p2:=(cl ag (by omega)).trans p2;replace p3:=(cl ag (by omega)).trans p3;replace p4:=(cl ag (by omega)).trans p4;have er:=ag.size;have Ee:Below wr.heap.size wr w3:=al.out.trans (ag.mono (by omega));have Es:=hJ _ _ _ _ hj (ItStep.of_below Ee);have ar:=jq (bO.out.of_below Ee);have HT:=jq (aJZ (p:=p) xI.out);clear aj ag hj qO
   cases ck:p (⟨xh,xf,xt,xs,xA,xn,xc⟩,cc) with
   | false=>
    have HX:=jq ck;clear ck Ee;gi_wp2_with fail;refine⟨λ_ _=>trivial,?_⟩;gi_wp2_with fail;go_roundw
    case rel=>exact⟨k+1,S1,by omega,by go_num,by rw[HT.out,HX.out]; exact Es,λk e=>by have:=ep k e; omega,bD,ar,by omega⟩
    case measure=>simp[intOf] <;> omega
   | true=>
    have HX:=jq ck;have iJ:(L.take k).filter p ++ [(⟨xh,xf,xt,xs,xA,xn,xc⟩,cc)] <+: L.filter p:=by
     have h1:=HT.out;rw[HX.out,Qb rfl] at h1;rw[<-h1];exact aJJ p L (k+1)
    obtain⟨fn,tmps,assign,body,hy,hR⟩:=hY ((L.take k).filter p) (⟨xh,xf,xt,xs,xA,xn,xc⟩,cc) S1 w3 iJ Es (λk e=>by have:=ep k e; omega) (by omega);have pS:Sem.run prog (Instr.yield l #[.agg #[.int .i64 xh,.int .i64 xf,.int .i64 xt,.string xs,.slice xA xn xc]]) w3 = .ok (.round l fn tmps assign body) w3:=hy;have Ue:=jq iJ;clear hy iJ ck Ee;gi_wp2_with fail;refine⟨rfl,hR.mono ?_⟩;rintro e w4 ⟨S4,bd,Pz,Y1,(⟨rfl,Xu⟩ | ⟨rfl,Xv⟩)⟩
    ·have bq:Hid (fL Dr w w4):=jq (ar.out.round bd (λk e hd=>by
      rcases bD k e with e | e
      ·exact hS k e hd
      ·have:=(HW.out.2 k hd).1; omega))
     have gC:=bd.size;clear bd pS hR;gi_wp2_with fail;go_roundw
     case rel=>
      refine⟨k+1,S4,by omega,by go_num,by rw[HT.out,HX.out]; exact Xu,Y1,λk e=>?_,bq,by omega⟩;rcases Pz k e with e | e
      ·exact bD k e
      ·right; omega
     case measure=>simp[intOf] <;> omega
    ·have gC:=bd.size;clear bd pS hR;gi_wp2_with fail;refine bodyPost_ret (results_none rfl _ _ _) rfl ?_;refine⟨⟨_,rfl⟩,.inr ⟨_,S4,Ue.out,Xv,λk e=>?_⟩⟩;rcases Pz k e with e | e
     ·exact bD k e
     ·right; omega
  ·have gY:Hid (L.take k=L):=jq (kQ (by rw[n7.out]; omega));rw[gY.out] at hj;gi_wp2_with fail;go_end0;exact⟨⟨_,rfl⟩,.inl ⟨S1,hj,bD⟩⟩
end
section
open Go.RowKit
theorem Wo:∀ args w,(callFunc 46 args).run prog w = .ok (.enter 46 args) w:=enters_of func46 (by kernel_rfl) rfl
theorem Wp:∀ args w,(callFunc 64 args).run prog w = .ok (.enter 64 args) w:=enters_of func64 (by kernel_rfl) rfl
theorem Wq:∀ args w,(callFunc 69 args).run prog w = .ok (.enter 69 args) w:=enters_of func69 (by kernel_rfl) rfl
theorem Wr:∀ args w,(callFunc 70 args).run prog w = .ok (.enter 70 args) w:=enters_of func70 (by kernel_rfl) rfl
theorem Iw:∀ args w,(callFunc 91 args).run prog w = .ok (.enter 91 args) w:=enters_of func91 (by kernel_rfl) rfl
theorem Vj(h f u:Int)(s:ByteArray)(v:Value)(A:Option Addr)(n c:Nat)(hv:v = .slice A n c)(bt:Nat)(t:Int)(w:World)(hb:bt<w.heap.size)(ht:w.cell? ⟨bt,0,none⟩=some (.int .i64 t)) :
 Calls prog 46 #[.agg #[.int .i64 h,.int .i64 f,.int .i64 u,.string s,v],.pointer (some ⟨bt,0,none⟩)] w λe w'=>e = .returned (.bool (decide (f<=t)&&decide (t<u)))/\Below w.heap.size w w':=by
 subst hv;obtain⟨W1,ai⟩:∃ W1,w.alloc (.cells #[.int .i64 h,.int .i64 f,.int .i64 u,.string s,.slice A n c] 58)=W1:=⟨_,rfl⟩;have ap:Below w.heap.size w W1:=by rw[<-ai]; exact (vQ _ _).alloc (bQ _) _
 have k1:W1.cell? ⟨w.heap.size,1,none⟩=some (.int .i64 f):=by rw[<-ai]; simp[go_sem]
 have k2:W1.cell? ⟨w.heap.size,2,none⟩=some (.int .i64 u):=by rw[<-ai]; simp[go_sem]
 have kt:=(ap.cell (p:=⟨bt,0,none⟩) hb).trans ht;have HB:=jq ap;clear ap;go_enter func46,ntmps46;by_cases h1:f<=t
 ·have d1:decide (f<=t)=true:=uQ h1;by_cases h2:t<u
  ·have d2:decide (t<u)=true:=uQ h2;have HD:=jq (And.intro d1 d2);clear h1 h2;go_wp2_with fail;go_ret;exact⟨ae (by rw[HD.out.1,HD.out.2]; rfl),HB.out⟩
  ·have d2:decide (t<u)=false:=tQ h2;have HD:=jq (And.intro d1 d2);clear h1 h2;go_wp2_with fail;go_ret;exact⟨ae (by rw[HD.out.1,HD.out.2]; rfl),HB.out⟩
 ·have d1:decide (f<=t)=false:=tQ h1;have HD:=jq d1;clear h1;go_wp2_with fail;go_ret;exact⟨ae (by rw[HD.out]; rfl),HB.out⟩
theorem apX(h f u:Int)(s:ByteArray)(v:Value)(A:Option Addr)(n c:Nat)(hv:v = .slice A n c)(bz:Nat)(z:ByteArray)(w:World)(hb:bz<w.heap.size)(ht:w.cell? ⟨bz,0,none⟩=some (.string z)) :
 Calls prog 64 #[.agg #[.int .i64 h,.int .i64 f,.int .i64 u,.string s,v],.pointer (some ⟨bz,0,none⟩)] w λe w'=>e = .returned (.bool (s.data.toList == z.data.toList))/\Below w.heap.size w w':=by
 subst hv;obtain⟨W1,ai⟩:∃ W1,w.alloc (.cells #[.int .i64 h,.int .i64 f,.int .i64 u,.string s,.slice A n c] 58)=W1:=⟨_,rfl⟩;have ap:Below w.heap.size w W1:=by rw[<-ai]; exact (vQ _ _).alloc (bQ _) _
 have k1:W1.cell? ⟨w.heap.size,3,none⟩=some (.string s):=by rw[<-ai]; simp[go_sem]
 have kt:=(ap.cell (p:=⟨bz,0,none⟩) hb).trans ht;have HB:=jq ap;obtain⟨q,hq⟩:∃ q,(s.toList == z.toList)=q:=⟨_,rfl⟩;have HQ:Hid ((s.data.toList == z.data.toList)=q):=jq (by rw[<-hq,dQ,dQ]);clear ap;rw[HQ.out];go_enter func64,ntmps64;go_wp2_with fail;go_ret;exact⟨rfl,HB.out⟩
theorem aIK(s:ByteArray)(a o:Int)(ba:Nat)(addr:Int)(w:World)(hb:ba<w.heap.size)(ht:w.cell? ⟨ba,0,none⟩=some (.int .i64 addr)) :
 Calls prog 69 #[.agg #[.string s,.int .i64 a,.int .i64 o],.pointer (some ⟨ba,0,none⟩)] w λe w'=>e = .returned (.bool (decide (a=addr)))/\Below w.heap.size w w':=by
 obtain⟨W1,ai⟩:∃ W1,w.alloc (.cells #[.string s,.int .i64 a,.int .i64 o] 64)=W1:=⟨_,rfl⟩;have ap:Below w.heap.size w W1:=by rw[<-ai]; exact (vQ _ _).alloc (bQ _) _
 have k1:W1.cell? ⟨w.heap.size,1,none⟩=some (.int .i64 a):=by rw[<-ai]; simp[go_sem]
 have kt:=(ap.cell (p:=⟨ba,0,none⟩) hb).trans ht;have HB:=jq ap;obtain⟨q,hq⟩:∃ q,(a == addr)=q:=⟨_,rfl⟩;have HQ:Hid (decide (a=addr)=q):=jq (by rw[<-hq]; by_cases h:a=addr <;> simp[h]);clear ap;rw[HQ.out];go_enter func69,ntmps69;go_wp2_with fail;go_ret;exact⟨rfl,HB.out⟩
theorem aIX(h f u:Int)(s:ByteArray)(v:Value)(A:Option Addr)(n c:Nat)(hv:v = .slice A n c)(bh bz:Nat)(kk:Int)(z:ByteArray)(w:World)(X5:bh<w.heap.size)(jr:bz<w.heap.size)(ZK:w.cell? ⟨bh,0,none⟩=some (.int .i64 kk))(Ck:w.cell? ⟨bz,0,none⟩=some (.string z)) :
 Calls prog 70 #[.agg #[.int .i64 h,.int .i64 f,.int .i64 u,.string s,v],.pointer (some ⟨bh,0,none⟩),.pointer (some ⟨bz,0,none⟩)] w λe w'=>e = .returned (.bool (decide (h=kk)&&(s.data.toList == z.data.toList)))/\Below w.heap.size w w':=by
 subst hv;obtain⟨W1,ai⟩:∃ W1,w.alloc (.cells #[.int .i64 h,.int .i64 f,.int .i64 u,.string s,.slice A n c] 58)=W1:=⟨_,rfl⟩;have ap:Below w.heap.size w W1:=by rw[<-ai]; exact (vQ _ _).alloc (bQ _) _
 have k0:W1.cell? ⟨w.heap.size,0,none⟩=some (.int .i64 h):=by rw[<-ai]; simp[go_sem]
 have k1:W1.cell? ⟨w.heap.size,3,none⟩=some (.string s):=by rw[<-ai]; simp[go_sem]
 have kh:=(ap.cell (p:=⟨bh,0,none⟩) X5).trans ZK;have kt:=(ap.cell (p:=⟨bz,0,none⟩) jr).trans Ck;have HB:=jq ap;obtain⟨q,hq⟩:∃ q,(s.toList == z.toList)=q:=⟨_,rfl⟩;have HQ:Hid ((s.data.toList == z.data.toList)=q):=jq (by rw[<-hq,dQ,dQ]);clear ap;rw[HQ.out];go_enter func70,ntmps70;by_cases h1:h=kk
 ·have e1:(h == kk)=true:=by simpa using h1
  have HD:=jq (uQ h1);clear h1;go_wp2_with fail;go_ret;exact⟨ae (by rw[HD.out]; rfl),HB.out⟩
 ·have e1:(h == kk)=false:=by simpa using h1
  have HD:=jq (tQ h1);clear h1;go_wp2_with fail;go_ret;exact⟨ae (by rw[HD.out]; rfl),HB.out⟩
end
end Go.Proofs.YtbfbobfbgabjiaaGreatDoor
