/- Parts of the proof. No condition. -/
import Derived.Test.YtfnopgdcaanaiaaGreatDoorW13
set_option linter.all false
set_option maxRecDepth 100000
set_option maxHeartbeats 8000000
namespace Go.Proofs.YtfnopgdcaanaiaaGreatDoor
open Go.Proofs.Tryz
section
open Go.RowKit Go.Shelf
attribute [local go_sem] Oper.semAt_some
structure CV where
 host:Int
 frm:Int
 til:Int
 str:ByteArray
 A:Option Addr
 n:Nat
 c:Nat
def CV.cells(x:CV):Array Value:=#[.int .i64 x.host,.int .i64 x.frm,.int .i64 x.til,.string x.str,.slice x.A x.n x.c]
structure CVOf(w:World)(B:Nat)(x:CV)(c:Np.Copy):Prop where
 host:x.host=c.host
 frm:x.frm=c.frm
 til:x.til=c.til
 apex:x.str.data.toList=c.zone.apex
 size:x.str.size<=140737488355328
 sets:SlR bP 5 w B (.slice x.A x.n x.c) c.zone.sets
 len:c.zone.sets.length=x.n
theorem CVOf.keep{w w':World}{B:Nat}{x:CV}{c:Np.Copy}(h:CVOf w B x c)(hb:Below B w w'):CVOf w' B x c:=⟨h.host,h.frm,h.til,h.apex,h.size,h.sets.keep bH hb,h.len⟩
theorem CVOf.more{w:World}{B B':Nat}{x:CV}{c:Np.Copy}(h:CVOf w B x c)(hb:B<=B'):CVOf w B' x c:=⟨h.host,h.frm,h.til,h.apex,h.size,h.sets.more dH hb,h.len⟩
theorem Ux{w:World}{B n c:Nat}{A:Option Addr}{xs:List Np.Copy}(h:SlR ma 5 w B (.slice A n c) xs):∃ L:List (CV×Np.Copy),L.map (·.2)=xs/\L.length=n/\∀ i x,L[i]?=some x->CVOf w B x.1 x.2/\∃ b o,A=some ⟨b,o,none⟩/\b<B/\ek w b (o+i * 5) x.1.cells.toList:=by
 have hn:n=xs.length:=by
  obtain⟨A',c',hA,_,_,_⟩:=h;simp only[Value.slice.injEq] at hA;exact hA.2.1
 have bG:∀ k,k<=xs.length->∃ L:List (CV×Np.Copy),L.map (·.2)=xs.take k/\∀ i x,L[i]?=some x->CVOf w B x.1 x.2/\∃ b o,A=some ⟨b,o,none⟩/\b<B/\ek w b (o+i * 5) x.1.cells.toList:=by
  intro k
  induction k with
  | zero=>exact λ_=>⟨[],by simp,λi x hx=>by simp at hx⟩
  | succ k ih=>
   intro hk;obtain⟨L,h1,h2⟩:=ih (by omega);have hlen:L.length=k:=by have:=Qd List.length h1;simp at this;omega
   obtain⟨b,o,s,v,hA,hb,hs,an,hv,f0,f1,f2,f3,f4⟩:=uP h (aQ (by omega:k<xs.length));obtain⟨Az,cz,rfl,_,_⟩:=ak hv;refine⟨L ++ [(⟨xs[k].host,xs[k].frm,xs[k].til,s,Az,xs[k].zone.sets.length,cz⟩,xs[k])],by rw[List.map_append,h1,fQ (by omega)];rfl,λi x hx=>?_⟩;rcases Nat.lt_or_ge i L.length with aa | oM
   ·rw[List.getElem?_append_left aa] at hx;exact h2 i x hx
   ·rw[oQ oM] at hx;have h0:i - L.length=0:=by have:=(cQ.1 hx).1;simp at this;omega
    rw[h0] at hx;simp at hx;subst hx;obtain rfl:i=k:=by omega
    refine⟨⟨rfl,rfl,rfl,hs,an,hv,rfl⟩,b,o,hA,hb,λj u hj=>?_⟩
    match j,hj with
    | 0,hj=>simp[CV.cells] at hj;subst hj;exact f0
    | 1,hj=>simp[CV.cells] at hj;subst hj;exact f1
    | 2,hj=>simp[CV.cells] at hj;subst hj;exact f2
    | 3,hj=>simp[CV.cells] at hj;subst hj;exact f3
    | 4,hj=>simp[CV.cells] at hj;subst hj;exact f4
    | j+5,hj=>simp[CV.cells] at hj
 obtain⟨L,h1,h2⟩:=bG xs.length (bQ _);rw[List.take_length] at h1;exact⟨L,h1,by rw[hn,<-h1,List.length_map],h2⟩
theorem Uj(a1 a2 a3 a4 a5 a6 a7 a8 a9:Value)(pf:FuncId)(caps:Array Value)(w:World) :
 Calls prog 69 #[.agg #[a1,a2,a3,a4,a5,a6,a7,a8,a9],.func (.func pf) #[] caps] w λe w'=>e = .returned (.func (.func 141) #[] #[.pointer (some ⟨w.heap.size,0,none⟩),.pointer (some ⟨w.heap.size+1,0,none⟩)])/\w'=(w.alloc (.cells #[a1,a2,a3,a4,a5,a6,a7,a8,a9] 29)).alloc (.cells #[.func (.func pf) #[] caps] 132):=by
 go_enter func69,ntmps69;go_wp2_with fail;go_ret;exact⟨rfl,rfl⟩
theorem Qx{α:Type}{p:α->Bool}{L:List α}{k:Nat}{x:α}(hx:L[k]?=some x):(L.take (k+1)).filter p=if p x then (L.take k).filter p ++ [x] else (L.take k).filter p:=by
 obtain⟨hl,he⟩:=cQ.1 hx;rw[fQ hl,he,List.filter_append]
 cases h:p x <;> simp[h]
theorem Qy{α:Type}(p:α->Bool)(L:List α)(k:Nat):(L.take k).filter p <+: L.filter p:=by
 conv => rhs;rw[<-List.take_append_drop k L]
 rw[List.filter_append];exact List.prefix_append _ _
theorem Uk(L:List (CV×Np.Copy))(p:CV×Np.Copy->Bool)(pf:FuncId)(caps:Array Value)(X Ob n c:Nat)(Dr:Nat->Prop)(A:Option Addr)(w:World)(hX:Dr X)(hO:Dr Ob)(kX:w.cell? ⟨X,1,none⟩=some (.slice A n c))(kO:w.cell? ⟨Ob,0,none⟩=some (.func (.func pf) #[] caps))(AA:L.length=n)(It:n<=500)
 (hL:∀ i x,L[i]?=some x->∃ b o,A=some ⟨b,o,none⟩/\Dr b/\ek w b (o+i * 5) x.1.cells.toList) (eg:∀ args w,(callFunc pf args).run prog w = .ok (.enter pf args) w)
 (hp:∀ x∈L,∀ W,eB Dr w W->Calls prog pf (#[.agg x.1.cells]++caps) W λe W'=>e = .returned (.bool (p x))/\Below W.heap.size W W') :
 zK prog 141 (λy=>#[y,.pointer (some ⟨X,0,none⟩),.pointer (some ⟨Ob,0,none⟩)]) (λx:CV×Np.Copy=>#[.agg x.1.cells]) (L.filter p) Dr w:=by
 intro l J Jx S W hW hJ Dl hY hS hS' h0;have k1:=(hW.cell (p:=⟨X,1,none⟩) hX).trans kX;have HW:=jq hW;have HL:=jq hL;have HP:=jq hp;have lB:=jq AA;have KO:=jq kO;have rt:=hW.1;clear hW hL hp kX AA kO;refine callsIn_of_wp func141 rfl trivial ?_ rfl;simp only[ntmps141,List.size_toArray,List.length_cons,List.length_nil,Nat.reduceAdd,Nat.reduceSub,Array.replicate_succ,Array.replicate_zero,List.push_toArray,List.append_toArray,List.nil_append,List.cons_append];gi_wp2_with fail;gi_loopw [9] (λi wr=>∃ (k:Nat) (S1:Nat->Prop),k<=n/\i = .int .i64 k/\J ((L.take k).filter p) S1 wr/\(∀ k,S1 k->k<wr.heap.size)/\(∀ k,S1 k->S k\/W.heap.size<=k)/\Hid (eB Dr w wr)/\W.heap.size<=wr.heap.size) (λi _=>n - (intOf i).toNat)
 case atStart=>exact⟨0,S,jQ _,rfl,by simpa using h0,hS',λ_ e=>.inl e,HW,bQ _⟩
 case round=>
  obtain⟨k,S1,hk,rfl,hj,eh,bj,bC,an⟩:=hrel;by_cases aa:k<n
  ·obtain⟨x,ac⟩:∃ x,L[k]?=some x:=⟨_,aQ (by rw[lB.out];exact aa)⟩;obtain⟨b,o,rfl,hb,hce⟩:=HL.out k x ac;have gh:eB Dr w wr:=bC.out;obtain⟨⟨xh,xf,xt,xs,xA,xn,xc⟩,cc⟩:=x;have f0:wr.cell? ⟨b,o+k * 5,none⟩=some (.int .i64 xh):=(gh.cell (p:=⟨b,o+k * 5,none⟩) hb).trans (hce 0 _ rfl);have f1:wr.cell? ⟨b,o+k * 5+1,none⟩=some (.int .i64 xf):=(gh.cell (p:=⟨b,o+k * 5+1,none⟩) hb).trans (hce 1 _ rfl);have f2:wr.cell? ⟨b,o+k * 5+2,none⟩=some (.int .i64 xt):=(gh.cell (p:=⟨b,o+k * 5+2,none⟩) hb).trans (hce 2 _ rfl);have f3:wr.cell? ⟨b,o+k * 5+3,none⟩=some (.string xs):=(gh.cell (p:=⟨b,o+k * 5+3,none⟩) hb).trans (hce 3 _ rfl);have f4:wr.cell? ⟨b,o+k * 5+4,none⟩=some (.slice xA xn xc):=(gh.cell (p:=⟨b,o+k * 5+4,none⟩) hb).trans (hce 4 _ rfl);have qh:=jq ac;clear hce ac;have bV:(0:Int)<=(k:Int):=by omega
   have bT:(k:Int)<(n:Int):=by omega
   obtain⟨w2,aj⟩:=aCQ (wr.alloc (.cells #[.int .i64 xh,.int .i64 xf,.int .i64 xt,.string xs,.slice xA xn xc] 46));have aK:w2.heap.size=wr.heap.size+1:=by rw[<-aj];simp
   have ae:Below wr.heap.size wr w2:=by rw[<-aj];exact (vQ _ _).alloc (bQ _) _
   have p0:w2.cell? ⟨wr.heap.size,0,none⟩=some (.int .i64 xh):=by rw[<-aj];simp[go_sem]
   have p1:w2.cell? ⟨wr.heap.size,1,none⟩=some (.int .i64 xf):=by rw[<-aj];simp[go_sem]
   have p2:w2.cell? ⟨wr.heap.size,2,none⟩=some (.int .i64 xt):=by rw[<-aj];simp[go_sem]
   have p3:w2.cell? ⟨wr.heap.size,3,none⟩=some (.string xs):=by rw[<-aj];simp[go_sem]
   have p4:w2.cell? ⟨wr.heap.size,4,none⟩=some (.slice xA xn xc):=by rw[<-aj];simp[go_sem]
   have wg:eB Dr w w2:=gh.of_below ae;have qO:=(wg.cell (p:=⟨Ob,0,none⟩) hO).trans KO.out;have ai:=jq ae;have eV:=jq wg;clear gh ae wg;gi_wp2_with fail;refine⟨trivial,rfl,?_⟩;refine (callsIn_wide.2 (HP.out _ (gQ qh.out) w2 eV.out)).mono ?_;rintro e w3 ⟨rfl,al⟩;replace p0:=aBX al p0;replace p1:=aBX al p1;replace p2:=aBX al p2;replace p3:=aBX al p3;replace p4:=aBX al p4;have eF:=al.size;have rv:Below wr.heap.size wr w3:=ai.out.trans (al.aDQ);have vw:=hJ _ _ _ _ hj (ItStep.of_below rv);have am:=jq (bC.out.of_below rv);have HT:=jq (Qx (p:=p) qh.out);clear aj al hj qO
   cases br:p (⟨xh,xf,xt,xs,xA,xn,xc⟩,cc) with
   | false=>
    have HX:=jq br;clear br rv;gi_wp2_with fail;refine⟨λ_ _=>trivial,?_⟩;gi_wp2_with fail;go_roundw
    case rel=>exact⟨k+1,S1,by omega,by go_num,by rw[HT.out,HX.out];exact vw,λk e=>by have:=eh k e;omega,bj,am,by omega⟩
    case measure=>simp[intOf] <;> omega
   | true=>
    have HX:=jq br;have ga:(L.take k).filter p ++ [(⟨xh,xf,xt,xs,xA,xn,xc⟩,cc)] <+: L.filter p:=by
     have h1:=HT.out;rw[HX.out,Qb rfl] at h1;rw[<-h1];exact Qy p L (k+1)
    obtain⟨fn,tmps,assign,body,hy,hR⟩:=hY ((L.take k).filter p) (⟨xh,xf,xt,xs,xA,xn,xc⟩,cc) S1 w3 ga vw (λk e=>by have:=eh k e;omega) (by omega);have mH:Sem.run prog (Instr.yield l #[.agg #[.int .i64 xh,.int .i64 xf,.int .i64 xt,.string xs,.slice xA xn xc]]) w3 = .ok (.round l fn tmps assign body) w3:=hy;have zj:=jq ga;clear hy ga br rv;gi_wp2_with fail;refine⟨rfl,hR.mono ?_⟩;rintro e w4 ⟨S4,aI,BC,Ip,(⟨rfl,G1⟩ | ⟨rfl,G2⟩)⟩
    ·have aP:Hid (eB Dr w w4):=jq (am.out.round aI (λk e hd=>by
      rcases bj k e with e | e
      ·exact hS k e hd
      ·have:=(HW.out.2 k hd).1;omega))
     have fd:=aI.size;clear aI mH hR;gi_wp2_with fail;go_roundw
     case rel=>
      refine⟨k+1,S4,by omega,by go_num,by rw[HT.out,HX.out];exact G1,Ip,λk e=>?_,aP,by omega⟩;rcases BC k e with e | e
      ·exact bj k e
      ·right;omega
     case measure=>simp[intOf] <;> omega
    ·have fd:=aI.size;clear aI mH hR;gi_wp2_with fail;refine bodyPost_ret (results_none rfl _ _ _) rfl ?_;refine⟨⟨_,rfl⟩,.inr ⟨_,S4,zj.out,G2,λk e=>?_⟩⟩;rcases BC k e with e | e
     ·exact bj k e
     ·right;omega
  ·have bZ:Hid (L.take k=L):=jq (kQ (by rw[lB.out];omega));rw[bZ.out] at hj;gi_wp2_with fail;go_end0;exact⟨⟨_,rfl⟩,.inl ⟨S1,hj,bj⟩⟩
end
section
open Go.RowKit
theorem UI:∀ args w,(callFunc 138 args).run prog w = .ok (.enter 138 args) w:=enters_of func138 (by kernel_rfl) rfl
theorem UF:∀ args w,(callFunc 141 args).run prog w = .ok (.enter 141 args) w:=enters_of func141 (by kernel_rfl) rfl
theorem ZS(h f u:Int)(s:ByteArray)(v:Value)(A:Option Addr)(n c:Nat)(hv:v = .slice A n c)(bz:Nat)(z:ByteArray)(w:World)(hb:bz<w.heap.size)(ht:w.cell? ⟨bz,0,none⟩=some (.string z)) :
 Calls prog 138 #[.agg #[.int .i64 h,.int .i64 f,.int .i64 u,.string s,v],.pointer (some ⟨bz,0,none⟩)] w (aFQ w.heap.size w (.bool (s.data.toList == z.data.toList))):=by
 subst hv;obtain⟨W1,ap⟩:=aCQ (w.alloc (.cells #[.int .i64 h,.int .i64 f,.int .i64 u,.string s,.slice A n c] 46));have aB:Below w.heap.size w W1:=by rw[<-ap];exact (vQ _ _).alloc (bQ _) _
 have k1:W1.cell? ⟨w.heap.size,3,none⟩=some (.string s):=by rw[<-ap];simp[go_sem]
 have kt:=(aB.cell (p:=⟨bz,0,none⟩) hb).trans ht;have HB:=jq aB;obtain⟨q,hq⟩:=aCQ (s.toList == z.toList);have HQ:Hid ((s.data.toList == z.data.toList)=q):=jq (by rw[<-hq,dQ,dQ]);clear aB;rw[HQ.out];go_enter func138,ntmps138;go_wp2_with fail;go_ret;exact⟨rfl,HB.out⟩
theorem Nx(e:List Value)(h:Np.Hist)(hf:Np.yM h)(w:World)(hR:iR w w.heap.size)(hh:iz w w.heap.size e h) :
 Calls prog 56 #[.agg e.toArray] w (aFQ w.heap.size w (.bool (Np.yes (Np.VHist h)))):=by
 obtain⟨hv,cv,s,dv,dV,rfl,h1,h2,h3,h4,h5,h6⟩:=hh;obtain⟨hosts,copies,⟨name,ty,life,data⟩,hints,drift,stop⟩:=h;dsimp only at h1 h3 h4 h5 h6;subst h1;exact Ny _ hosts _ copies s h2 ty life _ data _ hints drift stop hf.1 hf.2 _ hR h3 h4 h5 h6
def Np.pg(l:List Np.Signed):Prop:=l.length<=100/\∀ x∈l,x.set.data.length<=20/\x.sigs.length<=20
theorem UR(a:ByteArray)(v:Value)(l:List Np.Signed)(w:World)(hd:SlR bP 5 w w.heap.size v l) :
 Calls prog 72 #[.agg #[.string a,v]] w λe w'=>e = .returned (.bool (Np.yes (Np.pg l)))/\Below w.heap.size w w':=by
 obtain⟨r,hr⟩:=aCQ (Np.yes (Np.pg l));rw[hr];have HR:=jq hr;have HD:=jq hd;obtain⟨A,c,rfl,bq,bN⟩:=ak hd;clear hr hd;obtain⟨X,hX⟩:=aCQ w.heap.size;obtain⟨n,hn⟩:=aCQ l.length;rw[hn] at HD bq bN |-;have dh:=jq hn;clear hn;obtain⟨W1,ap⟩:=aCQ (w.alloc (.cells #[.string a,.slice A n c] 44));have aD:Below w.heap.size w W1:=by rw[<-ap];exact (vQ _ _).alloc (bQ _) _
 have jR:W1.heap.size=w.heap.size+1:=by rw[<-ap];simp
 have k1:W1.cell? ⟨X,1,none⟩=some (.slice A n c):=by rw[<-ap,<-hX];simp[go_sem]
 rw[hX] at aD jR HD |-;have aZ:=jq aD;clear aD;go_enter func72,ntmps72;go_wp2_with fail;clear ap hX;go_loopw [3] (λi wr=>∃ (k:Nat),k<=n/\k<=101/\i = .int .i64 k/\Hid (Below (X+1) W1 wr)/\Hid (∀ x∈l.take k,x.set.data.length<=20/\x.sigs.length<=20)) (λi _=>n - (intOf i).toNat)
 case atStart=>exact⟨0,jQ _,jQ _,rfl,jq (vQ _ _),jq (by simp)⟩
 case round=>
  obtain⟨k,hk,WK,rfl,bC,HQ⟩:=hrel;have HB:=aBY aZ bC.out;have q1:=aBX bC.out k1;have an:=bC.out.size;by_cases aa:k<n
  ·by_cases Vn:k<=100
   ·have Hy:decide ((k:Int)<=100)=true:=aDX;obtain⟨x,ac⟩:∃ x,l[k]?=some x:=⟨_,aQ (by rw[dh.out];exact aa)⟩;obtain⟨b,o,c',sn,dv,sv,hA,bR,_,ar,cZ,aO,bh,f0,f1,f2,f3,f4⟩:=fR (HD.out.keep bH HB.out) ac
    cases hA
    obtain⟨Ad,cd,rfl,_,_⟩:=ak aO;obtain⟨As,cs,rfl,_,_⟩:=ak bh;obtain⟨nd,nJ⟩:=aCQ x.set.data.length;obtain⟨ns,tw⟩:=aCQ x.sigs.length;rw[nJ] at f3;rw[tw] at f4;have HF:Hid (¬ (nd<=20/\ns<=20)->r=false):=jq (λh=>by
     rw[<-HR.out,<-nJ,<-tw] at *;exact Np.aC λq=>h (q.2 x (gQ ac)))
    have qo:Hid (nd<=20/\ns<=20->∀ x∈l.take (k+1),x.set.data.length<=20/\x.sigs.length<=20):=jq (λh y hy=>by
     obtain⟨hl,he⟩:=cQ.1 ac;rw[fQ hl,he] at hy;rcases List.mem_append.1 hy with hy | hy
     ·exact HQ.out y hy
     ·rw[List.mem_singleton] at hy;subst hy;rw[nJ,tw];exact h)
    clear ac ar aO bh nJ tw;by_cases g1:20<nd
    ·have d1:decide (20<(nd:Int))=true:=aDX;have HX:=jq (HF.out (by omega));clear g1;go_wp2_with fail;go_ret;exact⟨ag HX.out.symm,HB.out⟩
    ·have d1:decide (20<(nd:Int))=false:=aDJ;by_cases g2:20<ns
     ·have d2:decide (20<(ns:Int))=true:=aDX;have HX:=jq (HF.out (by omega));clear g1 g2;go_wp2_with fail;go_ret;exact⟨ag HX.out.symm,HB.out⟩
     ·have d2:decide (20<(ns:Int))=false:=aDJ;have HX:=jq (qo.out (by omega));clear g1 g2;go_wp2_with fail;go_roundw
      case rel=>exact⟨k+1,by omega,by omega,by go_num,bC,HX⟩
      case measure=>simp[intOf] <;> omega
   ·have Hy:decide ((k:Int)<=100)=false:=aDJ;have oK:decide ((n:Int)<=100)=false:=aDJ;have HX:Hid (r=false):=jq (by rw[<-HR.out];exact Np.aC λq=>by have:=q.1;rw[dh.out] at this;omega);go_wp2_with fail;go_ret;exact⟨ag HX.out.symm,HB.out⟩
  ·have F1:Hid (∀ x∈l,x.set.data.length<=20/\x.sigs.length<=20):=jq (by have:=HQ.out;rwa [kQ (by rw[dh.out];omega)] at this);by_cases Is:n<=100
   ·have oK:decide ((n:Int)<=100)=true:=aDX;have HX:Hid (r=true):=jq (by rw[<-HR.out];exact Np.ba ⟨by rw[dh.out];exact Is,F1.out⟩);go_wp2_with fail;go_ret;exact⟨ag HX.out.symm,HB.out⟩
   ·have oK:decide ((n:Int)<=100)=false:=aDJ;have HX:Hid (r=false):=jq (by rw[<-HR.out];exact Np.aC λq=>by have:=q.1;rw[dh.out] at this;omega);go_wp2_with fail;go_ret;exact⟨ag HX.out.symm,HB.out⟩
def Np.pd(h:Np.Hist):Prop:=(h.copies.length<=20/\h.hosts.length<=70/\h.hints.length<=20/\h.anchor.data.length<=20)/\(∀ c∈h.copies,Np.pg c.zone.sets/\c.zone.apex.length<=100)/\∀ x∈h.hosts,x.name.length<=100
theorem UQ(e:List Value)(h:Np.Hist)(w:World)(hh:iz w w.heap.size e h) :
 Calls prog 26 #[.agg e.toArray] w λe w'=>e = .returned (.bool (Np.yes (Np.pd h)))/\Below w.heap.size w w':=by
 obtain⟨hv,cv,s,dv,dV,rfl,_,_,h3,h4,h5',h6⟩:=hh;obtain⟨hosts,copies,⟨name,ty,life,data⟩,hints,drift,stop⟩:=h;dsimp only at h3 h4 h5' h6 |-;have HD:=jq h4;have HH:=jq h3;obtain⟨A1,c1,rfl,_,_⟩:=ak h3;obtain⟨A2,c2,rfl,_,_⟩:=ak h4;obtain⟨A3,c3,rfl,_,_⟩:=ak h5';obtain⟨A4,c4,rfl,_,_⟩:=ak h6;clear h3 h4 h5' h6;obtain⟨n1,bU⟩:=aCQ hosts.length;obtain⟨n2,cV⟩:=aCQ copies.length;obtain⟨n3,eY⟩:=aCQ data.length;obtain⟨n4,fI⟩:=aCQ hints.length;rw[bU,cV,eY,fI];rw[cV] at HD;rw[bU] at HH;have j9:=jq bU;have Cq:=jq eY;have FL:=jq fI;have dh:=jq cV;clear bU cV eY fI;obtain⟨r,hr⟩:=aCQ (Np.yes (Np.pd ⟨hosts,copies,⟨name,ty,life,data⟩,hints,drift,stop⟩));rw[hr];have HR:=jq hr;have un:Hid (Np.pd ⟨hosts,copies,⟨name,ty,life,data⟩,hints,drift,stop⟩↔(n2<=20/\n1<=70/\n4<=20/\n3<=20)/\(∀ c∈copies,Np.pg c.zone.sets/\c.zone.apex.length<=100)/\∀ h∈hosts,h.name.length<=100):=jq (by unfold Np.pd;dsimp only;rw[dh.out,j9.out,Cq.out,FL.out]);clear hr;obtain⟨X,hX⟩:=aCQ w.heap.size;have kM:=jq hX;obtain⟨W1,ap⟩:=aCQ (w.alloc (.cells #[.slice A1 n1 c1,.slice A2 n2 c2,.string s,.int .i64 ty,.int .i64 life,.slice A3 n3 c3,.slice A4 n4 c4,.int .i64 drift,.int .i64 stop] 29));have aD:Below w.heap.size w W1:=by rw[<-ap];exact (vQ _ _).alloc (bQ _) _
 have jR:W1.heap.size=w.heap.size+1:=by rw[<-ap];simp
 have k0:W1.cell? ⟨X,0,none⟩=some (.slice A1 n1 c1):=by rw[<-ap,<-hX];simp[go_sem]
 have k5:W1.cell? ⟨X,5,none⟩=some (.slice A3 n3 c3):=by rw[<-ap,<-hX];simp[go_sem]
 have k6:W1.cell? ⟨X,6,none⟩=some (.slice A4 n4 c4):=by rw[<-ap,<-hX];simp[go_sem]
 have k1:W1.cell? ⟨X,1,none⟩=some (.slice A2 n2 c2):=by rw[<-ap,<-hX];simp[go_sem]
 rw[hX] at aD jR HD HH |-;have aZ:=jq aD;clear aD;go_enter func26,ntmps26;go_wp2_with fail;clear ap hX;go_loopw [3] (λi wr=>∃ (k:Nat),k<=n2/\k<=21/\i = .int .i64 k/\Hid (Below (X+1) W1 wr)/\Hid (∀ c∈copies.take k,Np.pg c.zone.sets/\c.zone.apex.length<=100)) (λi _=>n2 - (intOf i).toNat)
 case atStart=>exact⟨0,jQ _,jQ _,rfl,jq (vQ _ _),jq (by simp)⟩
 case round=>
  obtain⟨k,hk,aIX,rfl,bC,HQ⟩:=hrel;have HB:=aBY aZ bC.out;have an:=bC.out.size;have q0:=aBX bC.out k0;have q1:=aBX bC.out k1;have q5:=aBX bC.out k5;have q6:=aBX bC.out k6;by_cases jJ:k<n2/\k<=20
  ·obtain⟨aa,cg⟩:=jJ;have aHQ:decide ((k:Int)<=20)=true:=aDX;obtain⟨x,ac⟩:∃ x,copies[k]?=some x:=⟨_,aQ (by rw[dh.out];exact aa)⟩;obtain⟨b,o,sn,vz,rfl,bR,ar,cZ,gd,f0,f1,f2,f3,f4⟩:=uP (HD.out.keep oY HB.out) ac;have aS:Hid (x.zone.apex.length=sn.size):=jq (by rw[<-ar,aX]);have iN:Hid (SlR bP 5 wr wr.heap.size vz x.zone.sets):=jq (gd.more dH (by omega));obtain⟨rz,eM⟩:=aCQ (Np.yes (Np.pg x.zone.sets));have ix:=jq eM;have HF:Hid (¬ (Np.pg x.zone.sets/\x.zone.apex.length<=100)->r=false):=jq (λh=>by
    rw[<-HR.out];exact Np.aC λq=>h ((un.out.1 q).2.1 x (gQ ac)))
   have qo:Hid (Np.pg x.zone.sets/\x.zone.apex.length<=100->∀ c∈copies.take (k+1),Np.pg c.zone.sets/\c.zone.apex.length<=100):=jq (λh y hy=>by
    obtain⟨hl,he⟩:=cQ.1 ac;rw[fQ hl,he] at hy;rcases List.mem_append.1 hy with hy | hy
    ·exact HQ.out y hy
    ·rw[List.mem_singleton] at hy;subst hy;exact h)
   obtain⟨Az,cz,rfl,_,_⟩:=ak gd;obtain⟨nz,jN⟩:=aCQ x.zone.sets.length;rw[jN] at f4 iN;clear ac ar gd jN eM;go_wp2_with fail;refine (UR sn _ x.zone.sets _ iN.out).mono ?_;rintro e w3 ⟨rfl,al⟩;have eF:=al.size;have g3:=aBX al f3;have g1:=aBX al q1;have am:=aBY HB al;have Fi:=aBY bC al;clear al;rw[ix.out]
   cases rz with
   | false=>
    have HX:=jq (HF.out (λh=>by have:=Np.ba h.1;rw[ix.out] at this;cases this));go_wp2_with fail;go_ret;exact⟨ag HX.out.symm,am.out⟩
   | true=>
    by_cases hs:100<sn.size
    ·have d2:decide (100<(sn.size:Int))=true:=aDX;have HX:=jq (HF.out (λh=>by have:=h.2;rw[aS.out] at this;omega));clear hs;go_wp2_with fail;go_ret;exact⟨ag HX.out.symm,am.out⟩
    ·have d2:decide (100<(sn.size:Int))=false:=aDJ;have HX:=jq (qo.out ⟨Np.fj.1 ix.out,by rw[aS.out];omega⟩);clear hs;go_wp2_with fail;go_roundw
     case rel=>exact⟨k+1,by omega,by omega,by go_num,jq Fi.out,HX⟩
     case measure=>simp[intOf] <;> omega
  ·have nA:(decide ((k:Int)<(n2:Int))=false)\/(decide ((k:Int)<(n2:Int))=true/\decide ((k:Int)<=20)=false):=by
    by_cases h1:k<n2
    ·exact .inr ⟨aDX,aDJ⟩
    ·exact .inl (aDJ)
   have l5:Hid (n2<=20->∀ c∈copies,Np.pg c.zone.sets/\c.zone.apex.length<=100):=jq (λh=>by
    have:=HQ.out
    rwa [kQ (by rw[dh.out];omega)] at this)
   obtain⟨wo,rfl⟩:=aCY wr;clear nA;have Hp:k<n2->decide ((k:Int)<=20)=false:=λh=>aDJ;by_cases mx:k<n2
   ·have fF:=Hp mx;clear jJ Hp;go_wp2_with fail;go_loopw [4] (λi wi=>∃ (j:Nat),j<=n1/\j<=71/\i = .int .i64 j/\Hid (Below wo.heap.size wo wi)/\Hid (∀ x∈hosts.take j,x.name.length<=100)) (λi _=>n1 - (intOf i).toNat)
    case atStart=>exact⟨0,jQ _,jQ _,rfl,jq (vQ _ _),jq (by simp)⟩
    case round=>
     obtain⟨j,hj,WE,rfl,cU,HP⟩:=hrel;have jZ:=aBY HB cU.out;have tO:=cU.out.size;have u0:=aBX cU.out q0;have u1:=aBX cU.out q1;have u5:=aBX cU.out q5;have u6:=aBX cU.out q6;by_cases jJ:j<n1/\j<=70
     ·obtain⟨aa,Vp⟩:=jJ;have We:decide ((j:Int)<=70)=true:=aDX;obtain⟨x,ac⟩:∃ x,hosts[j]?=some x:=⟨_,aQ (by rw[j9.out];exact aa)⟩;obtain⟨b,o,sn,rfl,bR,ar,cZ,f0,f1,f2⟩:=Bp (HH.out.keep o6 jZ.out) ac;have aS:Hid (x.name.length=sn.size):=jq (by rw[<-ar,aX]);have HF:Hid (¬ x.name.length<=100->r=false):=jq (λh=>by
       rw[<-HR.out];exact Np.aC λq=>h ((un.out.1 q).2.2 x (gQ ac)))
      have pq:Hid (x.name.length<=100->∀ c∈hosts.take (j+1),c.name.length<=100):=jq (λh y hy=>by
       obtain⟨hl,he⟩:=cQ.1 ac;rw[fQ hl,he] at hy;rcases List.mem_append.1 hy with hy | hy
       ·exact HP.out y hy
       ·rw[List.mem_singleton] at hy;subst hy;exact h)
      clear ac ar;by_cases hs:100<sn.size
      ·have d2:decide (100<(sn.size:Int))=true:=aDX;have HX:=jq (HF.out (λh=>by rw[aS.out] at h;omega));clear hs;go_wp2_with fail;go_ret;exact⟨ag HX.out.symm,jZ.out⟩
      ·have d2:decide (100<(sn.size:Int))=false:=aDJ;have HX:=jq (pq.out (by rw[aS.out];omega));clear hs;go_wp2_with fail;go_roundw
       case rel=>exact⟨j+1,by omega,by omega,by go_num,cU,HX⟩
       case measure=>simp[intOf] <;> omega
     ·have vx:j<n1->decide ((j:Int)<=70)=false:=λh=>aDJ;have Fs:Hid (n1<=70->∀ x∈hosts,x.name.length<=100):=jq (λh=>by
       have:=HP.out
       rwa [kQ (by rw[j9.out];omega)] at this)
      have vI:(20<n2\/70<n1\/20<n4\/20<n3)->r=false:=λh=>by rw[<-HR.out];exact Np.aC λq=>by have:=(un.out.1 q).1;omega
      have FQ:=jq vI;have zG:Hid (n2<=20/\n1<=70/\n4<=20/\n3<=20->r=true):=jq (λh=>by rw[<-HR.out];exact Np.ba (un.out.2 ⟨h,l5.out h.1,Fs.out h.2.1⟩));clear jJ vI;have bG:∃ c1 c2 c3 c4:Bool,decide ((n2:Int)<=20)=c1/\decide ((n1:Int)<=70)=c2/\decide ((n4:Int)<=20)=c3/\decide ((n3:Int)<=20)=c4/\Hid (r=(c1&&c2&&c3&&c4)):=by
       refine⟨_,_,_,_,rfl,rfl,rfl,rfl,jq ?_⟩;by_cases h:n2<=20/\n1<=70/\n4<=20/\n3<=20
       ·rw[zG.out h,aDX,aDX,aDX,uQ (by omega)];rfl
       ·rw[FQ.out (by omega)]
        symm
        rw[Bool.eq_false_iff];intro hb;simp only[Bool.and_eq_true,Qa] at hb;omega
      obtain⟨c1',c2',c3',c4',e1,e2,e3,e4,rm⟩:=bG;by_cases pG:j<n1
      ·have jK:=vx pG;clear vx
       cases c1' <;> cases c2' <;> cases c3' <;> cases c4'
       all_goals
        go_wp2_with fail;go_ret;exact⟨ag rm.out.symm,jZ.out⟩
      ·have jK:=pG;clear vx
       cases c1' <;> cases c2' <;> cases c3' <;> cases c4'
       all_goals
        go_wp2_with fail;go_ret;exact⟨ag rm.out.symm,jZ.out⟩
   ·clear jJ Hp;go_wp2_with fail;go_loopw [4] (λi wi=>∃ (j:Nat),j<=n1/\j<=71/\i = .int .i64 j/\Hid (Below wo.heap.size wo wi)/\Hid (∀ x∈hosts.take j,x.name.length<=100)) (λi _=>n1 - (intOf i).toNat)
    case atStart=>exact⟨0,jQ _,jQ _,rfl,jq (vQ _ _),jq (by simp)⟩
    case round=>
     obtain⟨j,hj,WE,rfl,cU,HP⟩:=hrel;have jZ:=aBY HB cU.out;have tO:=cU.out.size;have u0:=aBX cU.out q0;have u1:=aBX cU.out q1;have u5:=aBX cU.out q5;have u6:=aBX cU.out q6;by_cases jJ:j<n1/\j<=70
     ·obtain⟨aa,Vp⟩:=jJ;have We:decide ((j:Int)<=70)=true:=aDX;obtain⟨x,ac⟩:∃ x,hosts[j]?=some x:=⟨_,aQ (by rw[j9.out];exact aa)⟩;obtain⟨b,o,sn,rfl,bR,ar,cZ,f0,f1,f2⟩:=Bp (HH.out.keep o6 jZ.out) ac;have aS:Hid (x.name.length=sn.size):=jq (by rw[<-ar,aX]);have HF:Hid (¬ x.name.length<=100->r=false):=jq (λh=>by
       rw[<-HR.out];exact Np.aC λq=>h ((un.out.1 q).2.2 x (gQ ac)))
      have pq:Hid (x.name.length<=100->∀ c∈hosts.take (j+1),c.name.length<=100):=jq (λh y hy=>by
       obtain⟨hl,he⟩:=cQ.1 ac;rw[fQ hl,he] at hy;rcases List.mem_append.1 hy with hy | hy
       ·exact HP.out y hy
       ·rw[List.mem_singleton] at hy;subst hy;exact h)
      clear ac ar;by_cases hs:100<sn.size
      ·have d2:decide (100<(sn.size:Int))=true:=aDX;have HX:=jq (HF.out (λh=>by rw[aS.out] at h;omega));clear hs;go_wp2_with fail;go_ret;exact⟨ag HX.out.symm,jZ.out⟩
      ·have d2:decide (100<(sn.size:Int))=false:=aDJ;have HX:=jq (pq.out (by rw[aS.out];omega));clear hs;go_wp2_with fail;go_roundw
       case rel=>exact⟨j+1,by omega,by omega,by go_num,cU,HX⟩
       case measure=>simp[intOf] <;> omega
     ·have vx:j<n1->decide ((j:Int)<=70)=false:=λh=>aDJ;have Fs:Hid (n1<=70->∀ x∈hosts,x.name.length<=100):=jq (λh=>by
       have:=HP.out
       rwa [kQ (by rw[j9.out];omega)] at this)
      have vI:(20<n2\/70<n1\/20<n4\/20<n3)->r=false:=λh=>by rw[<-HR.out];exact Np.aC λq=>by have:=(un.out.1 q).1;omega
      have FQ:=jq vI;have zG:Hid (n2<=20/\n1<=70/\n4<=20/\n3<=20->r=true):=jq (λh=>by rw[<-HR.out];exact Np.ba (un.out.2 ⟨h,l5.out h.1,Fs.out h.2.1⟩));clear jJ vI;have bG:∃ c1 c2 c3 c4:Bool,decide ((n2:Int)<=20)=c1/\decide ((n1:Int)<=70)=c2/\decide ((n4:Int)<=20)=c3/\decide ((n3:Int)<=20)=c4/\Hid (r=(c1&&c2&&c3&&c4)):=by
       refine⟨_,_,_,_,rfl,rfl,rfl,rfl,jq ?_⟩;by_cases h:n2<=20/\n1<=70/\n4<=20/\n3<=20
       ·rw[zG.out h,aDX,aDX,aDX,uQ (by omega)];rfl
       ·rw[FQ.out (by omega)]
        symm
        rw[Bool.eq_false_iff];intro hb;simp only[Bool.and_eq_true,Qa] at hb;omega
      obtain⟨c1',c2',c3',c4',e1,e2,e3,e4,rm⟩:=bG;by_cases pG:j<n1
      ·have jK:=vx pG;clear vx
       cases c1' <;> cases c2' <;> cases c3' <;> cases c4'
       all_goals
        go_wp2_with fail;go_ret;exact⟨ag rm.out.symm,jZ.out⟩
      ·have jK:=pG;clear vx
       cases c1' <;> cases c2' <;> cases c3' <;> cases c4'
       all_goals
        go_wp2_with fail;go_ret;exact⟨ag rm.out.symm,jZ.out⟩
structure Np.Use(h:Np.Hist):Prop where
 copies:h.copies.length<=21
 hosts:h.hosts.length<=70
 hints:h.hints.length<=20
 data:h.anchor.data.length<=20
 each:∀ c∈h.copies,Np.pg c.zone.sets
theorem Np.pd.use{h:Np.Hist}(k:Np.pd h):Np.Use h:=
 ⟨by have:=k.1.1;omega,k.1.2.1,k.1.2.2.1,k.1.2.2.2,λc hc=>(k.2.1 c hc).1⟩
theorem Np.Use.withC{h:Np.Hist}(k:Np.Use h){l:List Np.Copy}(hl:l.length<=21)(hz:∀ d∈l,∃ c∈h.copies,d.zone=c.zone):Np.Use (Np.withC h l):=
 ⟨hl,k.hosts,k.hints,k.data,λd hd=>by
  obtain⟨c,hc,e⟩:=hz d hd;rw[e];exact k.each c hc⟩
theorem Np.kR.withC{h:Np.Hist}(k:Np.kR h){l:List Np.Copy}(hz:∀ d∈l,∃ c∈h.copies,d.zone=c.zone):Np.kR (Np.withC h l):=λd hd s hs=>by
 obtain⟨c,hc,e⟩:=hz d hd;rw[e] at hs;exact k c hc s hs
theorem Np.Use.fewH{h:Np.Hist}(k:Np.Use h):Np.yM h:=
 ⟨by have:=k.copies;omega,λc hc=>by have:=(k.each c hc).1;omega⟩
theorem Np.Use.sets{h:Np.Hist}(k:Np.Use h):∀ c∈h.copies,∀ x∈c.zone.sets,x.set.data.length<=100000/\x.sigs.length<=100000:=λc hc x hx=>by
 have:=(k.each c hc).2 x hx
 omega
theorem Np.ZE{l:List Np.Copy}{n:Nat}(h:∀ c∈l,c.zone.sets.length<=n)(zone:List UInt8):(Np.dR l zone).length<=l.length * n:=by
 induction l with
 | nil=>simp[Np.dR,Np.uO]
 | cons c l ih=>
  have h1:=ih (λd hd=>h d (mQ _ hd));have h2:=h c (by simp);have e:=Np.Pj [c] l zone;rw[List.singleton_append] at e;rw[e,List.length_append,List.length_cons,Nat.add_mul,Nat.one_mul];have h3:(Np.dR [c] zone).length<=n:=by
   unfold Np.dR Np.uO;rw[List.filter_cons,List.filter_nil];split
   ·simp[Np.oU];exact h2
   ·simp
  omega
theorem Np.Use.pairs{h:Np.Hist}(k:Np.Use h)(zone:List UInt8):(Np.dR h.copies zone).length<=5000:=by
 have h1:=Np.ZE (λc hc=>(k.each c hc).1) zone;have h2:=Nat.mul_le_mul_right 100 k.copies;omega
theorem Np.Use.cut{h:Np.Hist}(k:Np.pd h)(j:Nat)(a:Int):Np.Use (Np.withC h (Np.uR h.copies j a)):=
 k.use.withC (by have h1:=Np.Us h.copies j a;have h2:=k.1.1;omega) (λd hd=>by
  obtain⟨c,hc,_,h2,_⟩:=Np.Mi hd;exact⟨c,hc,h2⟩)
theorem Np.kR.cut{h:Np.Hist}(k:Np.kR h)(j:Nat)(a:Int):Np.kR (Np.withC h (Np.uR h.copies j a)):=
 k.withC (λd hd=>by
  obtain⟨c,hc,_,h2,_⟩:=Np.Mi hd;exact⟨c,hc,h2⟩)
theorem Np.Use.short{h:Np.Hist}(k:Np.pd h)(u:Int):Np.Use (Np.withC h (Np.yA h.copies u)):=
 k.use.withC (by have h1:=Np.amY h.copies u;have h2:=k.1.1;omega) (λd hd=>by
  obtain⟨c,hc,rfl,_⟩:=Np.O3.1 hd;exact⟨c,hc,rfl⟩)
theorem Np.kR.short{h:Np.Hist}(k:Np.kR h)(u:Int):Np.kR (Np.withC h (Np.yA h.copies u)):=
 k.withC (λd hd=>by
  obtain⟨c,hc,rfl,_⟩:=Np.O3.1 hd;exact⟨c,hc,rfl⟩)
end
end Go.Proofs.YtfnopgdcaanaiaaGreatDoor
