/- Parts of the proof. No condition. -/
import Derived.Test.YtfnopgdcaanaiaaGreatDoorH22
set_option linter.all false
set_option maxRecDepth 100000
set_option maxHeartbeats 8000000
namespace Go.Proofs.YtfnopgdcaanaiaaGreatDoor
open Go.Proofs.Tryz
section
open Go.RowKit Go.Shelf
attribute [local go_sem] Oper.semAt_some
structure CV where
 host:Int
 frm:Int
 til:Int
 str:ByteArray
 A:Option Addr
 n:Nat
 c:Nat
def CV.cells(x:CV):Array Value:=#[.int .i64 x.host,.int .i64 x.frm,.int .i64 x.til,.string x.str,.slice x.A x.n x.c]
structure CVOf(w:World)(B:Nat)(x:CV)(c:Np.Copy):Prop where
 host:x.host=c.host
 frm:x.frm=c.frm
 til:x.til=c.til
 apex:x.str.data.toList=c.zone.apex
 size:x.str.size<=140737488355328
 sets:SlR bh 5 w B (.slice x.A x.n x.c) c.zone.sets
 len:c.zone.sets.length=x.n
theorem CVOf.keep{w w':World}{B:Nat}{x:CV}{c:Np.Copy}(h:CVOf w B x c)(hb:Below B w w'):CVOf w' B x c:=⟨h.host,h.frm,h.til,h.apex,h.size,h.sets.keep aX hb,h.len⟩
theorem CVOf.more{w:World}{B B':Nat}{x:CV}{c:Np.Copy}(h:CVOf w B x c)(hb:B<=B'):CVOf w B' x c:=⟨h.host,h.frm,h.til,h.apex,h.size,h.sets.more cj hb,h.len⟩
theorem R1{w:World}{B n c:Nat}{A:Option Addr}{xs:List Np.Copy}(h:SlR fU 5 w B (.slice A n c) xs):∃ L:List (CV×Np.Copy),L.map (·.2)=xs/\L.length=n/\∀ i x,L[i]?=some x->CVOf w B x.1 x.2/\∃ b o,A=some ⟨b,o,none⟩/\b<B/\ag w b (o+i * 5) x.1.cells.toList:=by
 have hn:n=xs.length:=by
  obtain⟨A',c',hA,_,_,_⟩:=h;simp only[Value.slice.injEq] at hA;exact hA.2.1
 have aH:∀ k,k<=xs.length->∃ L:List (CV×Np.Copy),L.map (·.2)=xs.take k/\∀ i x,L[i]?=some x->CVOf w B x.1 x.2/\∃ b o,A=some ⟨b,o,none⟩/\b<B/\ag w b (o+i * 5) x.1.cells.toList:=by
  intro k
  induction k with
  | zero=>exact λ_=>⟨[],by simp,λi x hx=>by simp at hx⟩
  | succ k ih=>
   intro hk;obtain⟨L,h1,h2⟩:=ih (by omega);have hlen:L.length=k:=by have:=Qd List.length h1;simp at this;omega
   obtain⟨b,o,s,v,hA,hb,hs,an,hv,f0,f1,f2,f3,f4⟩:=pq h (aQ (by omega:k<xs.length));obtain⟨Az,cz,rfl,_,_⟩:=al hv;refine⟨L ++ [(⟨xs[k].host,xs[k].frm,xs[k].til,s,Az,xs[k].zone.sets.length,cz⟩,xs[k])],by rw[List.map_append,h1,fQ (by omega)];rfl,λi x hx=>?_⟩;rcases Nat.lt_or_ge i L.length with aa | lP
   ·rw[List.getElem?_append_left aa] at hx;exact h2 i x hx
   ·rw[oQ lP] at hx;have h0:i - L.length=0:=by have:=(cQ.1 hx).1;simp at this;omega
    rw[h0] at hx;simp at hx;subst hx;obtain rfl:i=k:=by omega
    refine⟨⟨rfl,rfl,rfl,hs,an,hv,rfl⟩,b,o,hA,hb,λj u hj=>?_⟩
    match j,hj with
    | 0,hj=>simp[CV.cells] at hj;subst hj;exact f0
    | 1,hj=>simp[CV.cells] at hj;subst hj;exact f1
    | 2,hj=>simp[CV.cells] at hj;subst hj;exact f2
    | 3,hj=>simp[CV.cells] at hj;subst hj;exact f3
    | 4,hj=>simp[CV.cells] at hj;subst hj;exact f4
    | j+5,hj=>simp[CV.cells] at hj
 obtain⟨L,h1,h2⟩:=aH xs.length (bQ _);rw[List.take_length] at h1;exact⟨L,h1,by rw[hn,<-h1,List.length_map],h2⟩
theorem RN(a1 a2 a3 a4 a5 a6 a7 a8 a9:Value)(pf:FuncId)(caps:Array Value)(w:World) :
 Calls prog 69 #[.agg #[a1,a2,a3,a4,a5,a6,a7,a8,a9],.func (.func pf) #[] caps] w λe w'=>e = .returned (.func (.func 141) #[] #[.pointer (some ⟨w.heap.size,0,none⟩),.pointer (some ⟨w.heap.size+1,0,none⟩)])/\w'=(w.alloc (.cells #[a1,a2,a3,a4,a5,a6,a7,a8,a9] 29)).alloc (.cells #[.func (.func pf) #[] caps] 132):=by
 go_enter func69,ntmps69;go_wp2_with fail;go_ret;exact⟨rfl,rfl⟩
theorem NV{α:Type}{p:α->Bool}{L:List α}{k:Nat}{x:α}(hx:L[k]?=some x):(L.take (k+1)).filter p=if p x then (L.take k).filter p ++ [x] else (L.take k).filter p:=by
 obtain⟨hl,he⟩:=cQ.1 hx;rw[fQ hl,he,List.filter_append]
 cases h:p x <;> simp[h]
theorem NW{α:Type}(p:α->Bool)(L:List α)(k:Nat):(L.take k).filter p <+: L.filter p:=by
 conv => rhs;rw[<-List.take_append_drop k L]
 rw[List.filter_append];exact List.prefix_append _ _
theorem RO(L:List (CV×Np.Copy))(p:CV×Np.Copy->Bool)(pf:FuncId)(caps:Array Value)(X Ob n c:Nat)(Dr:Nat->Prop)(A:Option Addr)(w:World)(hX:Dr X)(hO:Dr Ob)(kX:w.cell? ⟨X,1,none⟩=some (.slice A n c))(kO:w.cell? ⟨Ob,0,none⟩=some (.func (.func pf) #[] caps))(xX:L.length=n)(FB:n<=500)
 (hL:∀ i x,L[i]?=some x->∃ b o,A=some ⟨b,o,none⟩/\Dr b/\ag w b (o+i * 5) x.1.cells.toList) (eg:∀ args w,(callFunc pf args).run prog w = .ok (.enter pf args) w)
 (hp:∀ x∈L,∀ W,dH Dr w W->Calls prog pf (#[.agg x.1.cells]++caps) W λe W'=>e = .returned (.bool (p x))/\Below W.heap.size W W') :
 xr prog 141 (λy=>#[y,.pointer (some ⟨X,0,none⟩),.pointer (some ⟨Ob,0,none⟩)]) (λx:CV×Np.Copy=>#[.agg x.1.cells]) (L.filter p) Dr w:=by
 intro l J Jx S W hW hJ Bi hY hS hS' h0;have k1:=(hW.cell (p:=⟨X,1,none⟩) hX).trans kX;have HW:=jq hW;have HL:=jq hL;have HP:=jq hp;have kl:=jq xX;have KO:=jq kO;have uK:=hW.1;clear hW hL hp kX xX kO;refine callsIn_of_wp func141 rfl trivial ?_ rfl;simp only[ntmps141,List.size_toArray,List.length_cons,List.length_nil,Nat.reduceAdd,Nat.reduceSub,Array.replicate_succ,Array.replicate_zero,List.push_toArray,List.append_toArray,List.nil_append,List.cons_append];gi_wp2_with fail;gi_loopw [9] (λi wr=>∃ (k:Nat) (S1:Nat->Prop),k<=n/\i = .int .i64 k/\J ((L.take k).filter p) S1 wr/\(∀ k,S1 k->k<wr.heap.size)/\(∀ k,S1 k->S k\/W.heap.size<=k)/\Hid (dH Dr w wr)/\W.heap.size<=wr.heap.size) (λi _=>n - (intOf i).toNat)
 case atStart=>exact⟨0,S,jQ _,rfl,by simpa using h0,hS',λ_ e=>.inl e,HW,bQ _⟩
 case round=>
  obtain⟨k,S1,hk,rfl,hj,du,aV,bD,an⟩:=hrel;by_cases aa:k<n
  ·obtain⟨x,ab⟩:∃ x,L[k]?=some x:=⟨_,aQ (by rw[kl.out];exact aa)⟩;obtain⟨b,o,rfl,hb,hce⟩:=HL.out k x ab;have fo:dH Dr w wr:=bD.out;obtain⟨⟨xh,xf,xt,xs,xA,xn,xc⟩,cc⟩:=x;have f0:wr.cell? ⟨b,o+k * 5,none⟩=some (.int .i64 xh):=(fo.cell (p:=⟨b,o+k * 5,none⟩) hb).trans (hce 0 _ rfl);have f1:wr.cell? ⟨b,o+k * 5+1,none⟩=some (.int .i64 xf):=(fo.cell (p:=⟨b,o+k * 5+1,none⟩) hb).trans (hce 1 _ rfl);have f2:wr.cell? ⟨b,o+k * 5+2,none⟩=some (.int .i64 xt):=(fo.cell (p:=⟨b,o+k * 5+2,none⟩) hb).trans (hce 2 _ rfl);have f3:wr.cell? ⟨b,o+k * 5+3,none⟩=some (.string xs):=(fo.cell (p:=⟨b,o+k * 5+3,none⟩) hb).trans (hce 3 _ rfl);have f4:wr.cell? ⟨b,o+k * 5+4,none⟩=some (.slice xA xn xc):=(fo.cell (p:=⟨b,o+k * 5+4,none⟩) hb).trans (hce 4 _ rfl);have qr:=jq ab;clear hce ab;have bO:(0:Int)<=(k:Int):=by omega
   have bM:(k:Int)<(n:Int):=by omega
   obtain⟨w2,ai⟩:∃ w2,wr.alloc (.cells #[.int .i64 xh,.int .i64 xf,.int .i64 xt,.string xs,.slice xA xn xc] 46)=w2:=⟨_,rfl⟩;have aJ:w2.heap.size=wr.heap.size+1:=by rw[<-ai];simp
   have ac:Below wr.heap.size wr w2:=by rw[<-ai];exact (vQ _ _).alloc (bQ _) _
   have p0:w2.cell? ⟨wr.heap.size,0,none⟩=some (.int .i64 xh):=by rw[<-ai];simp[go_sem]
   have p1:w2.cell? ⟨wr.heap.size,1,none⟩=some (.int .i64 xf):=by rw[<-ai];simp[go_sem]
   have p2:w2.cell? ⟨wr.heap.size,2,none⟩=some (.int .i64 xt):=by rw[<-ai];simp[go_sem]
   have p3:w2.cell? ⟨wr.heap.size,3,none⟩=some (.string xs):=by rw[<-ai];simp[go_sem]
   have p4:w2.cell? ⟨wr.heap.size,4,none⟩=some (.slice xA xn xc):=by rw[<-ai];simp[go_sem]
   have tE:dH Dr w w2:=fo.of_below ac;have qO:=(tE.cell (p:=⟨Ob,0,none⟩) hO).trans KO.out;have aj:=jq ac;have dT:=jq tE;clear fo ac tE;gi_wp2_with fail;refine⟨trivial,rfl,?_⟩;refine (callsIn_wide.2 (HP.out _ (gQ qr.out) w2 dT.out)).mono ?_;rintro e w3 ⟨rfl,ak⟩;replace p0:=(cl ak (by omega)).trans p0;replace p1:=(cl ak (by omega)).trans p1;replace p2:=(cl ak (by omega)).trans p2;replace p3:=(cl ak (by omega)).trans p3;replace p4:=(cl ak (by omega)).trans p4;have el:=ak.size;have pt:Below wr.heap.size wr w3:=aj.out.trans (ak.mono (by omega));have th:=hJ _ _ _ _ hj (ItStep.of_below pt);have ar:=jq (bD.out.of_below pt);have HT:=jq (NV (p:=p) qr.out);clear ai ak hj qO
   cases bp:p (⟨xh,xf,xt,xs,xA,xn,xc⟩,cc) with
   | false=>
    have HX:=jq bp;clear bp pt;gi_wp2_with fail;refine⟨λ_ _=>trivial,?_⟩;gi_wp2_with fail;go_roundw
    case rel=>exact⟨k+1,S1,by omega,by go_num,by rw[HT.out,HX.out];exact th,λk e=>by have:=du k e;omega,aV,ar,by omega⟩
    case measure=>simp[intOf] <;> omega
   | true=>
    have HX:=jq bp;have fD:(L.take k).filter p ++ [(⟨xh,xf,xt,xs,xA,xn,xc⟩,cc)] <+: L.filter p:=by
     have h1:=HT.out;rw[HX.out,Qb rfl] at h1;rw[<-h1];exact NW p L (k+1)
    obtain⟨fn,tmps,assign,body,hy,hR⟩:=hY ((L.take k).filter p) (⟨xh,xf,xt,xs,xA,xn,xc⟩,cc) S1 w3 fD th (λk e=>by have:=du k e;omega) (by omega);have lq:Sem.run prog (Instr.yield l #[.agg #[.int .i64 xh,.int .i64 xf,.int .i64 xt,.string xs,.slice xA xn xc]]) w3 = .ok (.round l fn tmps assign body) w3:=hy;have Aw:=jq fD;clear hy fD bp pt;gi_wp2_with fail;refine⟨rfl,hR.mono ?_⟩;rintro e w4 ⟨S4,aN,yW,Fz,(⟨rfl,EQ⟩ | ⟨rfl,ER⟩)⟩
    ·have ba:Hid (dH Dr w w4):=jq (ar.out.round aN (λk e hd=>by
      rcases aV k e with e | e
      ·exact hS k e hd
      ·have:=(HW.out.2 k hd).1;omega))
     have em:=aN.size;clear aN lq hR;gi_wp2_with fail;go_roundw
     case rel=>
      refine⟨k+1,S4,by omega,by go_num,by rw[HT.out,HX.out];exact EQ,Fz,λk e=>?_,ba,by omega⟩;rcases yW k e with e | e
      ·exact aV k e
      ·right;omega
     case measure=>simp[intOf] <;> omega
    ·have em:=aN.size;clear aN lq hR;gi_wp2_with fail;refine bodyPost_ret (results_none rfl _ _ _) rfl ?_;refine⟨⟨_,rfl⟩,.inr ⟨_,S4,Aw.out,ER,λk e=>?_⟩⟩;rcases yW k e with e | e
     ·exact aV k e
     ·right;omega
  ·have fL:Hid (L.take k=L):=jq (kQ (by rw[kl.out];omega));rw[fL.out] at hj;gi_wp2_with fail;go_end0;exact⟨⟨_,rfl⟩,.inl ⟨S1,hj,aV⟩⟩
end
section
open Go.RowKit
theorem Sc:∀ args w,(callFunc 138 args).run prog w = .ok (.enter 138 args) w:=enters_of func138 (by kernel_rfl) rfl
theorem R8:∀ args w,(callFunc 141 args).run prog w = .ok (.enter 141 args) w:=enters_of func141 (by kernel_rfl) rfl
theorem Xq(h f u:Int)(s:ByteArray)(v:Value)(A:Option Addr)(n c:Nat)(hv:v = .slice A n c)(bz:Nat)(z:ByteArray)(w:World)(hb:bz<w.heap.size)(ht:w.cell? ⟨bz,0,none⟩=some (.string z)) :
 Calls prog 138 #[.agg #[.int .i64 h,.int .i64 f,.int .i64 u,.string s,v],.pointer (some ⟨bz,0,none⟩)] w λe w'=>e = .returned (.bool (s.data.toList == z.data.toList))/\Below w.heap.size w w':=by
 subst hv;obtain⟨W1,ap⟩:∃ W1,w.alloc (.cells #[.int .i64 h,.int .i64 f,.int .i64 u,.string s,.slice A n c] 46)=W1:=⟨_,rfl⟩;have az:Below w.heap.size w W1:=by rw[<-ap];exact (vQ _ _).alloc (bQ _) _
 have k1:W1.cell? ⟨w.heap.size,3,none⟩=some (.string s):=by rw[<-ap];simp[go_sem]
 have kt:=(az.cell (p:=⟨bz,0,none⟩) hb).trans ht;have HB:=jq az;obtain⟨q,hq⟩:∃ q,(s.toList == z.toList)=q:=⟨_,rfl⟩;have HQ:Hid ((s.data.toList == z.data.toList)=q):=jq (by rw[<-hq,dQ,dQ]);clear az;rw[HQ.out];go_enter func138,ntmps138;go_wp2_with fail;go_ret;exact⟨rfl,HB.out⟩
end
end Go.Proofs.YtfnopgdcaanaiaaGreatDoor
