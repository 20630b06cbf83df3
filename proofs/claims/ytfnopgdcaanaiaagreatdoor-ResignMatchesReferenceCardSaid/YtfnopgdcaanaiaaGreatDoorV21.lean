/- Parts of the proof. No condition. -/
import Derived.Test.YtfnopgdcaanaiaaGreatDoorV14
set_option linter.all false
set_option maxRecDepth 100000
set_option maxHeartbeats 8000000
namespace Go.Proofs.YtfnopgdcaanaiaaGreatDoor
open Go.Proofs.Tryz
section
open Go.RowKit Go.Shelf
attribute [local go_sem] Oper.semAt_some
structure CV where
 host:Int
 frm:Int
 til:Int
 str:ByteArray
 A:Option Addr
 n:Nat
 c:Nat
def CV.cells(x:CV):Array Value:=#[.int .i64 x.host,.int .i64 x.frm,.int .i64 x.til,.string x.str,.slice x.A x.n x.c]
structure CVOf(w:World)(B:Nat)(x:CV)(c:Np.Copy):Prop where
 host:x.host=c.host
 frm:x.frm=c.frm
 til:x.til=c.til
 apex:x.str.data.toList=c.zone.apex
 size:x.str.size<=140737488355328
 sets:SlR cV 5 w B (.slice x.A x.n x.c) c.zone.sets
 len:c.zone.sets.length=x.n
theorem CVOf.keep{w w':World}{B:Nat}{x:CV}{c:Np.Copy}(h:CVOf w B x c)(hb:Below B w w'):CVOf w' B x c:=⟨h.host,h.frm,h.til,h.apex,h.size,h.sets.keep bU hb,h.len⟩
theorem CVOf.more{w:World}{B B':Nat}{x:CV}{c:Np.Copy}(h:CVOf w B x c)(hb:B<=B'):CVOf w B' x c:=⟨h.host,h.frm,h.til,h.apex,h.size,h.sets.more fD hb,h.len⟩
theorem Vv{w:World}{B n c:Nat}{A:Option Addr}{xs:List Np.Copy}(h:SlR oq 5 w B (.slice A n c) xs):∃ L:List (CV×Np.Copy),L.map (·.2)=xs/\L.length=n/\∀ i x,L[i]?=some x->CVOf w B x.1 x.2/\∃ b o,A=some ⟨b,o,none⟩/\b<B/\gG w b (o+i * 5) x.1.cells.toList:=by
 have hn:n=xs.length:=by
  obtain⟨A',c',hA,_,_,_⟩:=h;simp only[Value.slice.injEq] at hA;exact hA.2.1
 have aP:∀ k,k<=xs.length->∃ L:List (CV×Np.Copy),L.map (·.2)=xs.take k/\∀ i x,L[i]?=some x->CVOf w B x.1 x.2/\∃ b o,A=some ⟨b,o,none⟩/\b<B/\gG w b (o+i * 5) x.1.cells.toList:=by
  intro k
  induction k with
  | zero=>exact λ_=>⟨[],by simp,λi x hx=>by simp at hx⟩
  | succ k ih=>
   intro hk;obtain⟨L,h1,h2⟩:=ih (by omega);have hlen:L.length=k:=by have:=Qd List.length h1;simp at this;omega
   obtain⟨b,o,s,v,hA,hb,hs,al,hv,f0,f1,f2,f3,f4⟩:=tn h (aQ (by omega:k<xs.length));obtain⟨Az,cz,rfl,_,_⟩:=aj hv;refine⟨L ++ [(⟨xs[k].host,xs[k].frm,xs[k].til,s,Az,xs[k].zone.sets.length,cz⟩,xs[k])],by rw[List.map_append,h1,fQ (by omega)];rfl,λi x hx=>?_⟩;rcases Nat.lt_or_ge i L.length with aa | pI
   ·rw[List.getElem?_append_left aa] at hx;exact h2 i x hx
   ·rw[oQ pI] at hx;have h0:i - L.length=0:=by have:=(cQ.1 hx).1;simp at this;omega
    rw[h0] at hx;simp at hx;subst hx;obtain rfl:i=k:=by omega
    refine⟨⟨rfl,rfl,rfl,hs,al,hv,rfl⟩,b,o,hA,hb,λj u hj=>?_⟩
    match j,hj with
    | 0,hj=>simp[CV.cells] at hj;subst hj;exact f0
    | 1,hj=>simp[CV.cells] at hj;subst hj;exact f1
    | 2,hj=>simp[CV.cells] at hj;subst hj;exact f2
    | 3,hj=>simp[CV.cells] at hj;subst hj;exact f3
    | 4,hj=>simp[CV.cells] at hj;subst hj;exact f4
    | j+5,hj=>simp[CV.cells] at hj
 obtain⟨L,h1,h2⟩:=aP xs.length (bQ _);rw[List.take_length] at h1;exact⟨L,h1,by rw[hn,<-h1,List.length_map],h2⟩
theorem Vi(a1 a2 a3 a4 a5 a6 a7 a8 a9:Value)(pf:FuncId)(caps:Array Value)(w:World) :
 Calls prog 69 #[.agg #[a1,a2,a3,a4,a5,a6,a7,a8,a9],.func (.func pf) #[] caps] w λe w'=>e = .returned (.func (.func 141) #[] #[.pointer (some ⟨w.heap.size,0,none⟩),.pointer (some ⟨w.heap.size+1,0,none⟩)])/\w'=(w.alloc (.cells #[a1,a2,a3,a4,a5,a6,a7,a8,a9] 29)).alloc (.cells #[.func (.func pf) #[] caps] 132):=by
 go_enter func69,ntmps69;go_wp2_with fail;go_ret;exact⟨rfl,rfl⟩
theorem axZ{α:Type}{p:α->Bool}{L:List α}{k:Nat}{x:α}(hx:L[k]?=some x):(L.take (k+1)).filter p=if p x then (L.take k).filter p ++ [x] else (L.take k).filter p:=by
 obtain⟨hl,he⟩:=cQ.1 hx;rw[fQ hl,he,List.filter_append]
 cases h:p x <;> simp[h]
theorem axJ{α:Type}(p:α->Bool)(L:List α)(k:Nat):(L.take k).filter p <+: L.filter p:=by
 conv => rhs;rw[<-List.take_append_drop k L]
 rw[List.filter_append];exact List.prefix_append _ _
theorem Vj(L:List (CV×Np.Copy))(p:CV×Np.Copy->Bool)(pf:FuncId)(caps:Array Value)(X Ob n c:Nat)(Dr:Nat->Prop)(A:Option Addr)(w:World)(hX:Dr X)(hO:Dr Ob)(kX:w.cell? ⟨X,1,none⟩=some (.slice A n c))(kO:w.cell? ⟨Ob,0,none⟩=some (.func (.func pf) #[] caps))(Nw:L.length=n)(IV:n<=500)
 (hL:∀ i x,L[i]?=some x->∃ b o,A=some ⟨b,o,none⟩/\Dr b/\gG w b (o+i * 5) x.1.cells.toList) (eg:∀ args w,(callFunc pf args).run prog w = .ok (.enter pf args) w)
 (hp:∀ x∈L,∀ W,fL Dr w W->Calls prog pf (#[.agg x.1.cells]++caps) W λe W'=>e = .returned (.bool (p x))/\Below W.heap.size W W') :
 C7 prog 141 (λy=>#[y,.pointer (some ⟨X,0,none⟩),.pointer (some ⟨Ob,0,none⟩)]) (λx:CV×Np.Copy=>#[.agg x.1.cells]) (L.filter p) Dr w:=by
 intro l J Jx S W hW hJ DG hY hS hS' h0;have k1:=(hW.cell (p:=⟨X,1,none⟩) hX).trans kX;have HW:=jq hW;have HL:=jq hL;have HP:=jq hp;have fI:=jq Nw;have KO:=jq kO;have AG:=hW.1;clear hW hL hp kX Nw kO;refine callsIn_of_wp func141 rfl trivial ?_ rfl;simp only[ntmps141,List.size_toArray,List.length_cons,List.length_nil,Nat.reduceAdd,Nat.reduceSub,Array.replicate_succ,Array.replicate_zero,List.push_toArray,List.append_toArray,List.nil_append,List.cons_append];gi_wp2_with fail;gi_loopw [9] (λi wr=>∃ (k:Nat) (S1:Nat->Prop),k<=n/\i = .int .i64 k/\J ((L.take k).filter p) S1 wr/\(∀ k,S1 k->k<wr.heap.size)/\(∀ k,S1 k->S k\/W.heap.size<=k)/\Hid (fL Dr w wr)/\W.heap.size<=wr.heap.size) (λi _=>n - (intOf i).toNat)
 case atStart=>exact⟨0,S,jQ _,rfl,by simpa using h0,hS',λ_ e=>.inl e,HW,bQ _⟩
 case round=>
  obtain⟨k,S1,hk,rfl,hj,cI,aV,cH,al⟩:=hrel;by_cases aa:k<n
  ·obtain⟨x,ab⟩:∃ x,L[k]?=some x:=⟨_,aQ (by rw[fI.out];exact aa)⟩;obtain⟨b,o,rfl,hb,hce⟩:=HL.out k x ab;have l4:fL Dr w wr:=cH.out;obtain⟨⟨xh,xf,xt,xs,xA,xn,xc⟩,cc⟩:=x;have f0:wr.cell? ⟨b,o+k * 5,none⟩=some (.int .i64 xh):=(l4.cell (p:=⟨b,o+k * 5,none⟩) hb).trans (hce 0 _ rfl);have f1:wr.cell? ⟨b,o+k * 5+1,none⟩=some (.int .i64 xf):=(l4.cell (p:=⟨b,o+k * 5+1,none⟩) hb).trans (hce 1 _ rfl);have f2:wr.cell? ⟨b,o+k * 5+2,none⟩=some (.int .i64 xt):=(l4.cell (p:=⟨b,o+k * 5+2,none⟩) hb).trans (hce 2 _ rfl);have f3:wr.cell? ⟨b,o+k * 5+3,none⟩=some (.string xs):=(l4.cell (p:=⟨b,o+k * 5+3,none⟩) hb).trans (hce 3 _ rfl);have f4:wr.cell? ⟨b,o+k * 5+4,none⟩=some (.slice xA xn xc):=(l4.cell (p:=⟨b,o+k * 5+4,none⟩) hb).trans (hce 4 _ rfl);have mW:=jq ab;clear hce ab;have bF:(0:Int)<=(k:Int):=by omega
   have bL:(k:Int)<(n:Int):=by omega
   obtain⟨w2,ag⟩:=aJZ (wr.alloc (.cells #[.int .i64 xh,.int .i64 xf,.int .i64 xt,.string xs,.slice xA xn xc] 46));have aN:w2.heap.size=wr.heap.size+1:=by rw[<-ag];simp
   have ac:Below wr.heap.size wr w2:=by rw[<-ag];exact (vQ _ _).alloc (bQ _) _
   have p0:w2.cell? ⟨wr.heap.size,0,none⟩=some (.int .i64 xh):=by rw[<-ag];simp[go_sem]
   have p1:w2.cell? ⟨wr.heap.size,1,none⟩=some (.int .i64 xf):=by rw[<-ag];simp[go_sem]
   have p2:w2.cell? ⟨wr.heap.size,2,none⟩=some (.int .i64 xt):=by rw[<-ag];simp[go_sem]
   have p3:w2.cell? ⟨wr.heap.size,3,none⟩=some (.string xs):=by rw[<-ag];simp[go_sem]
   have p4:w2.cell? ⟨wr.heap.size,4,none⟩=some (.slice xA xn xc):=by rw[<-ag];simp[go_sem]
   have Jq:fL Dr w w2:=l4.of_below ac;have qO:=(Jq.cell (p:=⟨Ob,0,none⟩) hO).trans KO.out;have ah:=jq ac;have fk:=jq Jq;clear l4 ac Jq;gi_wp2_with fail;refine⟨trivial,rfl,?_⟩;refine (callsIn_wide.2 (HP.out _ (gQ mW.out) w2 fk.out)).mono ?_;rintro e w3 ⟨rfl,ak⟩;replace p0:=aIZ ak p0;replace p1:=aIZ ak p1;replace p2:=aIZ ak p2;replace p3:=aIZ ak p3;replace p4:=aIZ ak p4;have gV:=ak.size;have DP:Below wr.heap.size wr w3:=ah.out.trans (ak.aKZ);have D6:=hJ _ _ _ _ hj (ItStep.of_below DP);have aA:=jq (cH.out.of_below DP);have HT:=jq (axZ (p:=p) mW.out);clear ag ak hj qO
   cases bg:p (⟨xh,xf,xt,xs,xA,xn,xc⟩,cc) with
   | false=>
    have HX:=jq bg;clear bg DP;gi_wp2_with fail;refine⟨λ_ _=>trivial,?_⟩;gi_wp2_with fail;go_roundw
    case rel=>exact⟨k+1,S1,by omega,by go_num,by rw[HT.out,HX.out];exact D6,λk e=>by have:=cI k e;omega,aV,aA,by omega⟩
    case measure=>simp[intOf] <;> omega
   | true=>
    have HX:=jq bg;have iV:(L.take k).filter p ++ [(⟨xh,xf,xt,xs,xA,xn,xc⟩,cc)] <+: L.filter p:=by
     have h1:=HT.out;rw[HX.out,Qb rfl] at h1;rw[<-h1];exact axJ p L (k+1)
    obtain⟨fn,tmps,assign,body,hy,hR⟩:=hY ((L.take k).filter p) (⟨xh,xf,xt,xs,xA,xn,xc⟩,cc) S1 w3 iV D6 (λk e=>by have:=cI k e;omega) (by omega);have pU:Sem.run prog (Instr.yield l #[.agg #[.int .i64 xh,.int .i64 xf,.int .i64 xt,.string xs,.slice xA xn xc]]) w3 = .ok (.round l fn tmps assign body) w3:=hy;have TC:=jq iV;clear hy iV bg DP;gi_wp2_with fail;refine⟨rfl,hR.mono ?_⟩;rintro e w4 ⟨S4,aF,O2,XM,(⟨rfl,Ww⟩ | ⟨rfl,Wx⟩)⟩
    ·have b7:Hid (fL Dr w w4):=jq (aA.out.round aF (λk e hd=>by
      rcases aV k e with e | e
      ·exact hS k e hd
      ·have:=(HW.out.2 k hd).1;omega))
     have jm:=aF.size;clear aF pU hR;gi_wp2_with fail;go_roundw
     case rel=>
      refine⟨k+1,S4,by omega,by go_num,by rw[HT.out,HX.out];exact Ww,XM,λk e=>?_,b7,by omega⟩;rcases O2 k e with e | e
      ·exact aV k e
      ·right;omega
     case measure=>simp[intOf] <;> omega
    ·have jm:=aF.size;clear aF pU hR;gi_wp2_with fail;refine bodyPost_ret (results_none rfl _ _ _) rfl ?_;refine⟨⟨_,rfl⟩,.inr ⟨_,S4,TC.out,Wx,λk e=>?_⟩⟩;rcases O2 k e with e | e
     ·exact aV k e
     ·right;omega
  ·have jS:Hid (L.take k=L):=jq (kQ (by rw[fI.out];omega));rw[jS.out] at hj;gi_wp2_with fail;go_end0;exact⟨⟨_,rfl⟩,.inl ⟨S1,hj,aV⟩⟩
end
section
open Go.RowKit
theorem VI:∀ args w,(callFunc 138 args).run prog w = .ok (.enter 138 args) w:=enters_of func138 (by kernel_rfl) rfl
theorem VF:∀ args w,(callFunc 141 args).run prog w = .ok (.enter 141 args) w:=enters_of func141 (by kernel_rfl) rfl
theorem aeQ(h f u:Int)(s:ByteArray)(v:Value)(A:Option Addr)(n c:Nat)(hv:v = .slice A n c)(bz:Nat)(z:ByteArray)(w:World)(hb:bz<w.heap.size)(ht:w.cell? ⟨bz,0,none⟩=some (.string z)) :
 Calls prog 138 #[.agg #[.int .i64 h,.int .i64 f,.int .i64 u,.string s,v],.pointer (some ⟨bz,0,none⟩)] w (aOJ w.heap.size w (.bool (s.data.toList == z.data.toList))):=by
 subst hv;obtain⟨W1,an⟩:=aJZ (w.alloc (.cells #[.int .i64 h,.int .i64 f,.int .i64 u,.string s,.slice A n c] 46));have aq:Below w.heap.size w W1:=by rw[<-an];exact (vQ _ _).alloc (bQ _) _
 have k1:W1.cell? ⟨w.heap.size,3,none⟩=some (.string s):=by rw[<-an];simp[go_sem]
 have kt:=(aq.cell (p:=⟨bz,0,none⟩) hb).trans ht;have HB:=jq aq;obtain⟨q,hq⟩:=aJZ (s.toList == z.toList);have HQ:Hid ((s.data.toList == z.data.toList)=q):=jq (by rw[<-hq,dQ,dQ]);clear aq;rw[HQ.out];go_enter func138,ntmps138;go_wp2_with fail;go_ret;exact⟨rfl,HB.out⟩
theorem Xx(e:List Value)(h:Np.Hist)(hf:Np.xb h)(w:World)(hR:iv w w.heap.size)(hh:fM w w.heap.size e h) :
 Calls prog 56 #[.agg e.toArray] w (aOJ w.heap.size w (.bool (Np.yes (Np.VHist h)))):=by
 obtain⟨hv,cv,s,dv,dx,rfl,h1,h2,h3,h4,h5,h6⟩:=hh;obtain⟨hosts,copies,⟨name,ty,life,data⟩,hints,drift,stop⟩:=h;dsimp only at h1 h3 h4 h5 h6;subst h1;exact Ok _ hosts _ copies s h2 ty life _ data _ hints drift stop hf.1 hf.2 _ hR h3 h4 h5 h6
def Np.o6(l:List Np.Signed):Prop:=l.length<=100/\∀ x∈l,x.set.data.length<=20/\x.sigs.length<=20
theorem VO(a:ByteArray)(v:Value)(l:List Np.Signed)(w:World)(hd:SlR cV 5 w w.heap.size v l) :
 Calls prog 72 #[.agg #[.string a,v]] w λe w'=>e = .returned (.bool (Np.yes (Np.o6 l)))/\Below w.heap.size w w':=by
 obtain⟨r,hr⟩:=aJZ (Np.yes (Np.o6 l));rw[hr];have HR:=jq hr;have HD:=jq hd;obtain⟨A,c,rfl,be,bC⟩:=aj hd;clear hr hd;obtain⟨X,hX⟩:=aJZ w.heap.size;obtain⟨n,hn⟩:=aJZ l.length;rw[hn] at HD be bC |-;have eR:=jq hn;clear hn;obtain⟨W1,an⟩:=aJZ (w.alloc (.cells #[.string a,.slice A n c] 44));have aB:Below w.heap.size w W1:=by rw[<-an];exact (vQ _ _).alloc (bQ _) _
 have jF:W1.heap.size=w.heap.size+1:=by rw[<-an];simp
 have k1:W1.cell? ⟨X,1,none⟩=some (.slice A n c):=by rw[<-an,<-hX];simp[go_sem]
 rw[hX] at aB jF HD |-;have aO:=jq aB;clear aB;go_enter func72,ntmps72;go_wp2_with fail;clear an hX;go_loopw [3] (λi wr=>∃ (k:Nat),k<=n/\k<=101/\i = .int .i64 k/\Hid (Below (X+1) W1 wr)/\Hid (∀ x∈l.take k,x.set.data.length<=20/\x.sigs.length<=20)) (λi _=>n - (intOf i).toNat)
 case atStart=>exact⟨0,jQ _,jQ _,rfl,jq (vQ _ _),jq (by simp)⟩
 case round=>
  obtain⟨k,hk,aRJ,rfl,cH,HQ⟩:=hrel;have HB:=aIX aO cH.out;have q1:=aIZ cH.out k1;have al:=cH.out.size;by_cases aa:k<n
  ·by_cases aKJ:k<=100
   ·have W5:decide ((k:Int)<=100)=true:=aLQ;obtain⟨x,ab⟩:∃ x,l[k]?=some x:=⟨_,aQ (by rw[eR.out];exact aa)⟩;obtain⟨b,o,c',sn,dv,sv,hA,bj,_,ay,cC,aT,aR,f0,f1,f2,f3,f4⟩:=fE (HD.out.keep bU HB.out) ab
    cases hA
    obtain⟨Ad,cd,rfl,_,_⟩:=aj aT;obtain⟨As,cs,rfl,_,_⟩:=aj aR;obtain⟨nd,pN⟩:=aJZ x.set.data.length;obtain⟨ns,Ed⟩:=aJZ x.sigs.length;rw[pN] at f3;rw[Ed] at f4;have HF:Hid (¬ (nd<=20/\ns<=20)->r=false):=jq (λh=>by
     rw[<-HR.out,<-pN,<-Ed] at *;exact Np.aS λq=>h (q.2 x (gQ ab)))
    have uR:Hid (nd<=20/\ns<=20->∀ x∈l.take (k+1),x.set.data.length<=20/\x.sigs.length<=20):=jq (λh y hy=>by
     obtain⟨hl,he⟩:=cQ.1 ab;rw[fQ hl,he] at hy;rcases List.mem_append.1 hy with hy | hy
     ·exact HQ.out y hy
     ·rw[List.mem_singleton] at hy;subst hy;rw[pN,Ed];exact h)
    clear ab ay aT aR pN Ed;by_cases g1:20<nd
    ·have d1:decide (20<(nd:Int))=true:=aLQ;have HX:=jq (HF.out (by omega));clear g1;go_wp2_with fail;go_ret;exact⟨ae HX.out.symm,HB.out⟩
    ·have d1:decide (20<(nd:Int))=false:=aKX;by_cases g2:20<ns
     ·have d2:decide (20<(ns:Int))=true:=aLQ;have HX:=jq (HF.out (by omega));clear g1 g2;go_wp2_with fail;go_ret;exact⟨ae HX.out.symm,HB.out⟩
     ·have d2:decide (20<(ns:Int))=false:=aKX;have HX:=jq (uR.out (by omega));clear g1 g2;go_wp2_with fail;go_roundw
      case rel=>exact⟨k+1,by omega,by omega,by go_num,cH,HX⟩
      case measure=>simp[intOf] <;> omega
   ·have W5:decide ((k:Int)<=100)=false:=aKX;have kG:decide ((n:Int)<=100)=false:=aKX;have HX:Hid (r=false):=jq (by rw[<-HR.out];exact Np.aS λq=>by have:=q.1;rw[eR.out] at this;omega);go_wp2_with fail;go_ret;exact⟨ae HX.out.symm,HB.out⟩
  ·have TK:Hid (∀ x∈l,x.set.data.length<=20/\x.sigs.length<=20):=jq (by have:=HQ.out;rwa [kQ (by rw[eR.out];omega)] at this);by_cases XQ:n<=100
   ·have kG:decide ((n:Int)<=100)=true:=aLQ;have HX:Hid (r=true):=jq (by rw[<-HR.out];exact Np.cu ⟨by rw[eR.out];exact XQ,TK.out⟩);go_wp2_with fail;go_ret;exact⟨ae HX.out.symm,HB.out⟩
   ·have kG:decide ((n:Int)<=100)=false:=aKX;have HX:Hid (r=false):=jq (by rw[<-HR.out];exact Np.aS λq=>by have:=q.1;rw[eR.out] at this;omega);go_wp2_with fail;go_ret;exact⟨ae HX.out.symm,HB.out⟩
def Np.q9(h:Np.Hist):Prop:=(h.copies.length<=20/\h.hosts.length<=70/\h.hints.length<=20/\h.anchor.data.length<=20)/\(∀ c∈h.copies,Np.o6 c.zone.sets/\c.zone.apex.length<=100)/\∀ x∈h.hosts,x.name.length<=100
theorem VM(e:List Value)(h:Np.Hist)(w:World)(hh:fM w w.heap.size e h) :
 Calls prog 26 #[.agg e.toArray] w λe w'=>e = .returned (.bool (Np.yes (Np.q9 h)))/\Below w.heap.size w w':=by
 obtain⟨hv,cv,s,dv,dx,rfl,_,_,h3,h4,h5',h6⟩:=hh;obtain⟨hosts,copies,⟨name,ty,life,data⟩,hints,drift,stop⟩:=h;dsimp only at h3 h4 h5' h6 |-;have HD:=jq h4;have HH:=jq h3;obtain⟨A1,c1,rfl,_,_⟩:=aj h3;obtain⟨A2,c2,rfl,_,_⟩:=aj h4;obtain⟨A3,c3,rfl,_,_⟩:=aj h5';obtain⟨A4,c4,rfl,_,_⟩:=aj h6;clear h3 h4 h5' h6;obtain⟨n1,bK⟩:=aJZ hosts.length;obtain⟨n2,bY⟩:=aJZ copies.length;obtain⟨n3,dF⟩:=aJZ data.length;obtain⟨n4,dY⟩:=aJZ hints.length;rw[bK,bY,dF,dY];rw[bY] at HD;rw[bK] at HH;have mo:=jq bK;have CW:=jq dF;have Gg:=jq dY;have eR:=jq bY;clear bK bY dF dY;obtain⟨r,hr⟩:=aJZ (Np.yes (Np.q9 ⟨hosts,copies,⟨name,ty,life,data⟩,hints,drift,stop⟩));rw[hr];have HR:=jq hr;have uE:Hid (Np.q9 ⟨hosts,copies,⟨name,ty,life,data⟩,hints,drift,stop⟩↔(n2<=20/\n1<=70/\n4<=20/\n3<=20)/\(∀ c∈copies,Np.o6 c.zone.sets/\c.zone.apex.length<=100)/\∀ h∈hosts,h.name.length<=100):=jq (by unfold Np.q9;dsimp only;rw[eR.out,mo.out,CW.out,Gg.out]);clear hr;obtain⟨X,hX⟩:=aJZ w.heap.size;have iK:=jq hX;obtain⟨W1,an⟩:=aJZ (w.alloc (.cells #[.slice A1 n1 c1,.slice A2 n2 c2,.string s,.int .i64 ty,.int .i64 life,.slice A3 n3 c3,.slice A4 n4 c4,.int .i64 drift,.int .i64 stop] 29));have aB:Below w.heap.size w W1:=by rw[<-an];exact (vQ _ _).alloc (bQ _) _
 have jF:W1.heap.size=w.heap.size+1:=by rw[<-an];simp
 have k0:W1.cell? ⟨X,0,none⟩=some (.slice A1 n1 c1):=by rw[<-an,<-hX];simp[go_sem]
 have k5:W1.cell? ⟨X,5,none⟩=some (.slice A3 n3 c3):=by rw[<-an,<-hX];simp[go_sem]
 have k6:W1.cell? ⟨X,6,none⟩=some (.slice A4 n4 c4):=by rw[<-an,<-hX];simp[go_sem]
 have k1:W1.cell? ⟨X,1,none⟩=some (.slice A2 n2 c2):=by rw[<-an,<-hX];simp[go_sem]
 rw[hX] at aB jF HD HH |-;have aO:=jq aB;clear aB;go_enter func26,ntmps26;go_wp2_with fail;clear an hX;go_loopw [3] (λi wr=>∃ (k:Nat),k<=n2/\k<=21/\i = .int .i64 k/\Hid (Below (X+1) W1 wr)/\Hid (∀ c∈copies.take k,Np.o6 c.zone.sets/\c.zone.apex.length<=100)) (λi _=>n2 - (intOf i).toNat)
 case atStart=>exact⟨0,jQ _,jQ _,rfl,jq (vQ _ _),jq (by simp)⟩
 case round=>
  obtain⟨k,hk,aRK,rfl,cH,HQ⟩:=hrel;have HB:=aIX aO cH.out;have al:=cH.out.size;have q0:=aIZ cH.out k0;have q1:=aIZ cH.out k1;have q5:=aIZ cH.out k5;have q6:=aIZ cH.out k6;by_cases j6:k<n2/\k<=20
  ·obtain⟨aa,bw⟩:=j6;have aOX:decide ((k:Int)<=20)=true:=aLQ;obtain⟨x,ab⟩:∃ x,copies[k]?=some x:=⟨_,aQ (by rw[eR.out];exact aa)⟩;obtain⟨b,o,sn,vz,rfl,bj,ay,cC,eO,f0,f1,f2,f3,f4⟩:=tn (HD.out.keep l7 HB.out) ab;have aW:Hid (x.zone.apex.length=sn.size):=jq (by rw[<-ay,bk]);have jT:Hid (SlR cV 5 wr wr.heap.size vz x.zone.sets):=jq (eO.more fD (by omega));obtain⟨rz,eD⟩:=aJZ (Np.yes (Np.o6 x.zone.sets));have iI:=jq eD;have HF:Hid (¬ (Np.o6 x.zone.sets/\x.zone.apex.length<=100)->r=false):=jq (λh=>by
    rw[<-HR.out];exact Np.aS λq=>h ((uE.out.1 q).2.1 x (gQ ab)))
   have uR:Hid (Np.o6 x.zone.sets/\x.zone.apex.length<=100->∀ c∈copies.take (k+1),Np.o6 c.zone.sets/\c.zone.apex.length<=100):=jq (λh y hy=>by
    obtain⟨hl,he⟩:=cQ.1 ab;rw[fQ hl,he] at hy;rcases List.mem_append.1 hy with hy | hy
    ·exact HQ.out y hy
    ·rw[List.mem_singleton] at hy;subst hy;exact h)
   obtain⟨Az,cz,rfl,_,_⟩:=aj eO;obtain⟨nz,jk⟩:=aJZ x.zone.sets.length;rw[jk] at f4 jT;clear ab ay eO jk eD;go_wp2_with fail;refine (VO sn _ x.zone.sets _ jT.out).mono ?_;rintro e w3 ⟨rfl,ak⟩;have gV:=ak.size;have g3:=aIZ ak f3;have g1:=aIZ ak q1;have aA:=aIX HB ak;have FB:=aIX cH ak;clear ak;rw[iI.out]
   cases rz with
   | false=>
    have HX:=jq (HF.out (λh=>by have:=Np.cu h.1;rw[iI.out] at this;cases this));go_wp2_with fail;go_ret;exact⟨ae HX.out.symm,aA.out⟩
   | true=>
    by_cases hs:100<sn.size
    ·have d2:decide (100<(sn.size:Int))=true:=aLQ;have HX:=jq (HF.out (λh=>by have:=h.2;rw[aW.out] at this;omega));clear hs;go_wp2_with fail;go_ret;exact⟨ae HX.out.symm,aA.out⟩
    ·have d2:decide (100<(sn.size:Int))=false:=aKX;have HX:=jq (uR.out ⟨Np.f8.1 iI.out,by rw[aW.out];omega⟩);clear hs;go_wp2_with fail;go_roundw
     case rel=>exact⟨k+1,by omega,by omega,by go_num,jq FB.out,HX⟩
     case measure=>simp[intOf] <;> omega
  ·have mG:(decide ((k:Int)<(n2:Int))=false)\/(decide ((k:Int)<(n2:Int))=true/\decide ((k:Int)<=20)=false):=by
    by_cases h1:k<n2
    ·exact .inr ⟨aLQ,aKX⟩
    ·exact .inl (aKX)
   have mi:Hid (n2<=20->∀ c∈copies,Np.o6 c.zone.sets/\c.zone.apex.length<=100):=jq (λh=>by
    have:=HQ.out
    rwa [kQ (by rw[eR.out];omega)] at this)
   obtain⟨wo,rfl⟩:=aKQ wr;clear mG;have Is:k<n2->decide ((k:Int)<=20)=false:=λh=>aKX;by_cases oM:k<n2
   ·have dV:=Is oM;clear j6 Is;go_wp2_with fail;go_loopw [4] (λi wi=>∃ (j:Nat),j<=n1/\j<=71/\i = .int .i64 j/\Hid (Below wo.heap.size wo wi)/\Hid (∀ x∈hosts.take j,x.name.length<=100)) (λi _=>n1 - (intOf i).toNat)
    case atStart=>exact⟨0,jQ _,jQ _,rfl,jq (vQ _ _),jq (by simp)⟩
    case round=>
     obtain⟨j,hj,Xy,rfl,ca,HP⟩:=hrel;have kq:=aIX HB ca.out;have ub:=ca.out.size;have u0:=aIZ ca.out q0;have u1:=aIZ ca.out q1;have u5:=aIZ ca.out q5;have u6:=aIZ ca.out q6;by_cases j6:j<n1/\j<=70
     ·obtain⟨aa,Ws⟩:=j6;have W7:decide ((j:Int)<=70)=true:=aLQ;obtain⟨x,ab⟩:∃ x,hosts[j]?=some x:=⟨_,aQ (by rw[mo.out];exact aa)⟩;obtain⟨b,o,sn,rfl,bj,ay,cC,f0,f1,f2⟩:=BG (HH.out.keep nR kq.out) ab;have aW:Hid (x.name.length=sn.size):=jq (by rw[<-ay,bk]);have HF:Hid (¬ x.name.length<=100->r=false):=jq (λh=>by
       rw[<-HR.out];exact Np.aS λq=>h ((uE.out.1 q).2.2 x (gQ ab)))
      have zx:Hid (x.name.length<=100->∀ c∈hosts.take (j+1),c.name.length<=100):=jq (λh y hy=>by
       obtain⟨hl,he⟩:=cQ.1 ab;rw[fQ hl,he] at hy;rcases List.mem_append.1 hy with hy | hy
       ·exact HP.out y hy
       ·rw[List.mem_singleton] at hy;subst hy;exact h)
      clear ab ay;by_cases hs:100<sn.size
      ·have d2:decide (100<(sn.size:Int))=true:=aLQ;have HX:=jq (HF.out (λh=>by rw[aW.out] at h;omega));clear hs;go_wp2_with fail;go_ret;exact⟨ae HX.out.symm,kq.out⟩
      ·have d2:decide (100<(sn.size:Int))=false:=aKX;have HX:=jq (zx.out (by rw[aW.out];omega));clear hs;go_wp2_with fail;go_roundw
       case rel=>exact⟨j+1,by omega,by omega,by go_num,ca,HX⟩
       case measure=>simp[intOf] <;> omega
     ·have vM:j<n1->decide ((j:Int)<=70)=false:=λh=>aKX;have FP:Hid (n1<=70->∀ x∈hosts,x.name.length<=100):=jq (λh=>by
       have:=HP.out
       rwa [kQ (by rw[mo.out];omega)] at this)
      have vW:(20<n2\/70<n1\/20<n4\/20<n3)->r=false:=λh=>by rw[<-HR.out];exact Np.aS λq=>by have:=(uE.out.1 q).1;omega
      have Gk:=jq vW;have zN:Hid (n2<=20/\n1<=70/\n4<=20/\n3<=20->r=true):=jq (λh=>by rw[<-HR.out];exact Np.cu (uE.out.2 ⟨h,mi.out h.1,FP.out h.2.1⟩));clear j6 vW;have aP:∃ c1 c2 c3 c4:Bool,decide ((n2:Int)<=20)=c1/\decide ((n1:Int)<=70)=c2/\decide ((n4:Int)<=20)=c3/\decide ((n3:Int)<=20)=c4/\Hid (r=(c1&&c2&&c3&&c4)):=by
       refine⟨_,_,_,_,rfl,rfl,rfl,rfl,jq ?_⟩;by_cases h:n2<=20/\n1<=70/\n4<=20/\n3<=20
       ·rw[zN.out h,aLQ,aLQ,aLQ,uQ (by omega)];rfl
       ·rw[Gk.out (by omega)]
        symm
        rw[Bool.eq_false_iff];intro hb;simp only[Bool.and_eq_true,Qa] at hb;omega
      obtain⟨c1',c2',c3',c4',e1,e2,e3,e4,zG⟩:=aP;by_cases kK:j<n1
      ·have jj:=vM kK;clear vM
       cases c1' <;> cases c2' <;> cases c3' <;> cases c4'
       all_goals
        go_wp2_with fail;go_ret;exact⟨ae zG.out.symm,kq.out⟩
      ·have jj:=kK;clear vM
       cases c1' <;> cases c2' <;> cases c3' <;> cases c4'
       all_goals
        go_wp2_with fail;go_ret;exact⟨ae zG.out.symm,kq.out⟩
   ·clear j6 Is;go_wp2_with fail;go_loopw [4] (λi wi=>∃ (j:Nat),j<=n1/\j<=71/\i = .int .i64 j/\Hid (Below wo.heap.size wo wi)/\Hid (∀ x∈hosts.take j,x.name.length<=100)) (λi _=>n1 - (intOf i).toNat)
    case atStart=>exact⟨0,jQ _,jQ _,rfl,jq (vQ _ _),jq (by simp)⟩
    case round=>
     obtain⟨j,hj,Xy,rfl,ca,HP⟩:=hrel;have kq:=aIX HB ca.out;have ub:=ca.out.size;have u0:=aIZ ca.out q0;have u1:=aIZ ca.out q1;have u5:=aIZ ca.out q5;have u6:=aIZ ca.out q6;by_cases j6:j<n1/\j<=70
     ·obtain⟨aa,Ws⟩:=j6;have W7:decide ((j:Int)<=70)=true:=aLQ;obtain⟨x,ab⟩:∃ x,hosts[j]?=some x:=⟨_,aQ (by rw[mo.out];exact aa)⟩;obtain⟨b,o,sn,rfl,bj,ay,cC,f0,f1,f2⟩:=BG (HH.out.keep nR kq.out) ab;have aW:Hid (x.name.length=sn.size):=jq (by rw[<-ay,bk]);have HF:Hid (¬ x.name.length<=100->r=false):=jq (λh=>by
       rw[<-HR.out];exact Np.aS λq=>h ((uE.out.1 q).2.2 x (gQ ab)))
      have zx:Hid (x.name.length<=100->∀ c∈hosts.take (j+1),c.name.length<=100):=jq (λh y hy=>by
       obtain⟨hl,he⟩:=cQ.1 ab;rw[fQ hl,he] at hy;rcases List.mem_append.1 hy with hy | hy
       ·exact HP.out y hy
       ·rw[List.mem_singleton] at hy;subst hy;exact h)
      clear ab ay;by_cases hs:100<sn.size
      ·have d2:decide (100<(sn.size:Int))=true:=aLQ;have HX:=jq (HF.out (λh=>by rw[aW.out] at h;omega));clear hs;go_wp2_with fail;go_ret;exact⟨ae HX.out.symm,kq.out⟩
      ·have d2:decide (100<(sn.size:Int))=false:=aKX;have HX:=jq (zx.out (by rw[aW.out];omega));clear hs;go_wp2_with fail;go_roundw
       case rel=>exact⟨j+1,by omega,by omega,by go_num,ca,HX⟩
       case measure=>simp[intOf] <;> omega
     ·have vM:j<n1->decide ((j:Int)<=70)=false:=λh=>aKX;have FP:Hid (n1<=70->∀ x∈hosts,x.name.length<=100):=jq (λh=>by
       have:=HP.out
       rwa [kQ (by rw[mo.out];omega)] at this)
      have vW:(20<n2\/70<n1\/20<n4\/20<n3)->r=false:=λh=>by rw[<-HR.out];exact Np.aS λq=>by have:=(uE.out.1 q).1;omega
      have Gk:=jq vW;have zN:Hid (n2<=20/\n1<=70/\n4<=20/\n3<=20->r=true):=jq (λh=>by rw[<-HR.out];exact Np.cu (uE.out.2 ⟨h,mi.out h.1,FP.out h.2.1⟩));clear j6 vW;have aP:∃ c1 c2 c3 c4:Bool,decide ((n2:Int)<=20)=c1/\decide ((n1:Int)<=70)=c2/\decide ((n4:Int)<=20)=c3/\decide ((n3:Int)<=20)=c4/\Hid (r=(c1&&c2&&c3&&c4)):=by
       refine⟨_,_,_,_,rfl,rfl,rfl,rfl,jq ?_⟩;by_cases h:n2<=20/\n1<=70/\n4<=20/\n3<=20
       ·rw[zN.out h,aLQ,aLQ,aLQ,uQ (by omega)];rfl
       ·rw[Gk.out (by omega)]
        symm
        rw[Bool.eq_false_iff];intro hb;simp only[Bool.and_eq_true,Qa] at hb;omega
      obtain⟨c1',c2',c3',c4',e1,e2,e3,e4,zG⟩:=aP;by_cases kK:j<n1
      ·have jj:=vM kK;clear vM
       cases c1' <;> cases c2' <;> cases c3' <;> cases c4'
       all_goals
        go_wp2_with fail;go_ret;exact⟨ae zG.out.symm,kq.out⟩
      ·have jj:=kK;clear vM
       cases c1' <;> cases c2' <;> cases c3' <;> cases c4'
       all_goals
        go_wp2_with fail;go_ret;exact⟨ae zG.out.symm,kq.out⟩
structure Np.Use(h:Np.Hist):Prop where
 copies:h.copies.length<=21
 hosts:h.hosts.length<=70
 hints:h.hints.length<=20
 data:h.anchor.data.length<=20
 each:∀ c∈h.copies,Np.o6 c.zone.sets
theorem Np.q9.use{h:Np.Hist}(k:Np.q9 h):Np.Use h:=
 ⟨by have:=k.1.1;omega,k.1.2.1,k.1.2.2.1,k.1.2.2.2,λc hc=>(k.2.1 c hc).1⟩
theorem Np.Use.withC{h:Np.Hist}(k:Np.Use h){l:List Np.Copy}(hl:l.length<=21)(hz:∀ d∈l,∃ c∈h.copies,d.zone=c.zone):Np.Use (Np.withC h l):=
 ⟨hl,k.hosts,k.hints,k.data,λd hd=>by
  obtain⟨c,hc,e⟩:=hz d hd;rw[e];exact k.each c hc⟩
theorem Np.nc.withC{h:Np.Hist}(k:Np.nc h){l:List Np.Copy}(hz:∀ d∈l,∃ c∈h.copies,d.zone=c.zone):Np.nc (Np.withC h l):=λd hd s hs=>by
 obtain⟨c,hc,e⟩:=hz d hd;rw[e] at hs;exact k c hc s hs
theorem Np.Use.fewH{h:Np.Hist}(k:Np.Use h):Np.xb h:=
 ⟨by have:=k.copies;omega,λc hc=>by have:=(k.each c hc).1;omega⟩
theorem Np.Use.sets{h:Np.Hist}(k:Np.Use h):∀ c∈h.copies,∀ x∈c.zone.sets,x.set.data.length<=100000/\x.sigs.length<=100000:=λc hc x hx=>by
 have:=(k.each c hc).2 x hx
 omega
theorem Np.abJ{l:List Np.Copy}{n:Nat}(h:∀ c∈l,c.zone.sets.length<=n)(zone:List UInt8):(Np.cL l zone).length<=l.length * n:=by
 induction l with
 | nil=>simp[Np.cL,Np.tm]
 | cons c l ih=>
  have h1:=ih (λd hd=>h d (mQ _ hd));have h2:=h c (by simp);have e:=Np.EK [c] l zone;rw[List.singleton_append] at e;rw[e,List.length_append,List.length_cons,Nat.add_mul,Nat.one_mul];have h3:(Np.cL [c] zone).length<=n:=by
   unfold Np.cL Np.tm;rw[List.filter_cons,List.filter_nil];split
   ·simp[Np.nO];exact h2
   ·simp
  omega
theorem Np.Use.pairs{h:Np.Hist}(k:Np.Use h)(zone:List UInt8):(Np.cL h.copies zone).length<=5000:=by
 have h1:=Np.abJ (λc hc=>(k.each c hc).1) zone;have h2:=Nat.mul_le_mul_right 100 k.copies;omega
theorem Np.Use.cut{h:Np.Hist}(k:Np.q9 h)(j:Nat)(a:Int):Np.Use (Np.withC h (Np.vg h.copies j a)):=
 k.use.withC (by have h1:=Np.Vr h.copies j a;have h2:=k.1.1;omega) (λd hd=>by
  obtain⟨c,hc,_,h2,_⟩:=Np.MP hd;exact⟨c,hc,h2⟩)
theorem Np.nc.cut{h:Np.Hist}(k:Np.nc h)(j:Nat)(a:Int):Np.nc (Np.withC h (Np.vg h.copies j a)):=
 k.withC (λd hd=>by
  obtain⟨c,hc,_,h2,_⟩:=Np.MP hd;exact⟨c,hc,h2⟩)
theorem Np.Use.short{h:Np.Hist}(k:Np.q9 h)(u:Int):Np.Use (Np.withC h (Np.yO h.copies u)):=
 k.use.withC (by have h1:=Np.asK h.copies u;have h2:=k.1.1;omega) (λd hd=>by
  obtain⟨c,hc,rfl,_⟩:=Np.PI.1 hd;exact⟨c,hc,rfl⟩)
theorem Np.nc.short{h:Np.Hist}(k:Np.nc h)(u:Int):Np.nc (Np.withC h (Np.yO h.copies u)):=
 k.withC (λd hd=>by
  obtain⟨c,hc,rfl,_⟩:=Np.PI.1 hd;exact⟨c,hc,rfl⟩)
end
end Go.Proofs.YtfnopgdcaanaiaaGreatDoor
