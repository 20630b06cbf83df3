/- Parts of the proof. No condition. -/
import Derived.Test.YtfnopgdcaanaiaaGreatDoorU16
set_option linter.all false
set_option maxRecDepth 100000
set_option maxHeartbeats 8000000
namespace Go.Proofs.YtfnopgdcaanaiaaGreatDoor
open Go.Proofs.Tryz
section
open Go.RowKit Go.Shelf
attribute [local go_sem] Oper.semAt_some
structure CV where
 host:Int
 frm:Int
 til:Int
 str:ByteArray
 A:Option Addr
 n:Nat
 c:Nat
def CV.cells(x:CV):Array Value:=#[.int .i64 x.host,.int .i64 x.frm,.int .i64 x.til,.string x.str,.slice x.A x.n x.c]
structure CVOf(w:World)(B:Nat)(x:CV)(c:Np.Copy):Prop where
 host:x.host=c.host
 frm:x.frm=c.frm
 til:x.til=c.til
 apex:x.str.data.toList=c.zone.apex
 size:x.str.size<=140737488355328
 sets:SlR cA 5 w B (.slice x.A x.n x.c) c.zone.sets
 len:c.zone.sets.length=x.n
theorem CVOf.keep{w w':World}{B:Nat}{x:CV}{c:Np.Copy}(h:CVOf w B x c)(hb:Below B w w'):CVOf w' B x c:=⟨h.host,h.frm,h.til,h.apex,h.size,h.sets.keep bI hb,h.len⟩
theorem CVOf.more{w:World}{B B':Nat}{x:CV}{c:Np.Copy}(h:CVOf w B x c)(hb:B<=B'):CVOf w B' x c:=⟨h.host,h.frm,h.til,h.apex,h.size,h.sets.more eF hb,h.len⟩
theorem R1{w:World}{B n c:Nat}{A:Option Addr}{xs:List Np.Copy}(h:SlR mG 5 w B (.slice A n c) xs):∃ L:List (CV×Np.Copy),L.map (·.2)=xs/\L.length=n/\∀ i x,L[i]?=some x->CVOf w B x.1 x.2/\∃ b o,A=some ⟨b,o,none⟩/\b<B/\fZ w b (o+i * 5) x.1.cells.toList:=by
 have hn:n=xs.length:=by
  obtain⟨A',c',hA,_,_,_⟩:=h;simp only[Value.slice.injEq] at hA;exact hA.2.1
 have aY:∀ k,k<=xs.length->∃ L:List (CV×Np.Copy),L.map (·.2)=xs.take k/\∀ i x,L[i]?=some x->CVOf w B x.1 x.2/\∃ b o,A=some ⟨b,o,none⟩/\b<B/\fZ w b (o+i * 5) x.1.cells.toList:=by
  intro k
  induction k with
  | zero=>exact λ_=>⟨[],by simp,λi x hx=>by simp at hx⟩
  | succ k ih=>
   intro hk;obtain⟨L,h1,h2⟩:=ih (by omega);have hlen:L.length=k:=by have:=Qd List.length h1;simp at this;omega
   obtain⟨b,o,s,v,hA,hb,hs,al,hv,f0,f1,f2,f3,f4⟩:=ta h (aQ (by omega:k<xs.length));obtain⟨Az,cz,rfl,_,_⟩:=aj hv;refine⟨L ++ [(⟨xs[k].host,xs[k].frm,xs[k].til,s,Az,xs[k].zone.sets.length,cz⟩,xs[k])],by rw[List.map_append,h1,fQ (by omega)];rfl,λi x hx=>?_⟩;rcases Nat.lt_or_ge i L.length with aa | nR
   ·rw[List.getElem?_append_left aa] at hx;exact h2 i x hx
   ·rw[oQ nR] at hx;have h0:i - L.length=0:=by have:=(cQ.1 hx).1;simp at this;omega
    rw[h0] at hx;simp at hx;subst hx;obtain rfl:i=k:=by omega
    refine⟨⟨rfl,rfl,rfl,hs,al,hv,rfl⟩,b,o,hA,hb,λj u hj=>?_⟩
    match j,hj with
    | 0,hj=>simp[CV.cells] at hj;subst hj;exact f0
    | 1,hj=>simp[CV.cells] at hj;subst hj;exact f1
    | 2,hj=>simp[CV.cells] at hj;subst hj;exact f2
    | 3,hj=>simp[CV.cells] at hj;subst hj;exact f3
    | 4,hj=>simp[CV.cells] at hj;subst hj;exact f4
    | j+5,hj=>simp[CV.cells] at hj
 obtain⟨L,h1,h2⟩:=aY xs.length (bQ _);rw[List.take_length] at h1;exact⟨L,h1,by rw[hn,<-h1,List.length_map],h2⟩
theorem RO(a1 a2 a3 a4 a5 a6 a7 a8 a9:Value)(pf:FuncId)(caps:Array Value)(w:World) :
 Calls prog 69 #[.agg #[a1,a2,a3,a4,a5,a6,a7,a8,a9],.func (.func pf) #[] caps] w λe w'=>e = .returned (.func (.func 141) #[] #[.pointer (some ⟨w.heap.size,0,none⟩),.pointer (some ⟨w.heap.size+1,0,none⟩)])/\w'=(w.alloc (.cells #[a1,a2,a3,a4,a5,a6,a7,a8,a9] 29)).alloc (.cells #[.func (.func pf) #[] caps] 132):=by
 go_enter func69,ntmps69;go_wp2_with fail;go_ret;exact⟨rfl,rfl⟩
theorem Zf{α:Type}{p:α->Bool}{L:List α}{k:Nat}{x:α}(hx:L[k]?=some x):(L.take (k+1)).filter p=if p x then (L.take k).filter p ++ [x] else (L.take k).filter p:=by
 obtain⟨hl,he⟩:=cQ.1 hx;rw[fQ hl,he,List.filter_append]
 cases h:p x <;> simp[h]
theorem Zg{α:Type}(p:α->Bool)(L:List α)(k:Nat):(L.take k).filter p <+: L.filter p:=by
 conv => rhs;rw[<-List.take_append_drop k L]
 rw[List.filter_append];exact List.prefix_append _ _
theorem RP(L:List (CV×Np.Copy))(p:CV×Np.Copy->Bool)(pf:FuncId)(caps:Array Value)(X Ob n c:Nat)(Dr:Nat->Prop)(A:Option Addr)(w:World)(hX:Dr X)(hO:Dr Ob)(kX:w.cell? ⟨X,1,none⟩=some (.slice A n c))(kO:w.cell? ⟨Ob,0,none⟩=some (.func (.func pf) #[] caps))(KP:L.length=n)(LF:n<=500)
 (hL:∀ i x,L[i]?=some x->∃ b o,A=some ⟨b,o,none⟩/\Dr b/\fZ w b (o+i * 5) x.1.cells.toList) (eg:∀ args w,(callFunc pf args).run prog w = .ok (.enter pf args) w)
 (hp:∀ x∈L,∀ W,eK Dr w W->Calls prog pf (#[.agg x.1.cells]++caps) W λe W'=>e = .returned (.bool (p x))/\Below W.heap.size W W') :
 Bq prog 141 (λy=>#[y,.pointer (some ⟨X,0,none⟩),.pointer (some ⟨Ob,0,none⟩)]) (λx:CV×Np.Copy=>#[.agg x.1.cells]) (L.filter p) Dr w:=by
 intro l J Jx S W hW hJ BX hY hS hS' h0;have k1:=(hW.cell (p:=⟨X,1,none⟩) hX).trans kX;have HW:=jq hW;have HL:=jq hL;have HP:=jq hp;have jL:=jq KP;have KO:=jq kO;have yl:=hW.1;clear hW hL hp kX KP kO;refine callsIn_of_wp func141 rfl trivial ?_ rfl;simp only[ntmps141,List.size_toArray,List.length_cons,List.length_nil,Nat.reduceAdd,Nat.reduceSub,Array.replicate_succ,Array.replicate_zero,List.push_toArray,List.append_toArray,List.nil_append,List.cons_append];gi_wp2_with fail;gi_loopw [9] (λi wr=>∃ (k:Nat) (S1:Nat->Prop),k<=n/\i = .int .i64 k/\J ((L.take k).filter p) S1 wr/\(∀ k,S1 k->k<wr.heap.size)/\(∀ k,S1 k->S k\/W.heap.size<=k)/\Hid (eK Dr w wr)/\W.heap.size<=wr.heap.size) (λi _=>n - (intOf i).toNat)
 case atStart=>exact⟨0,S,jQ _,rfl,by simpa using h0,hS',λ_ e=>.inl e,HW,bQ _⟩
 case round=>
  obtain⟨k,S1,hk,rfl,hj,bU,aM,cw,al⟩:=hrel;by_cases aa:k<n
  ·obtain⟨x,ac⟩:∃ x,L[k]?=some x:=⟨_,aQ (by rw[jL.out];exact aa)⟩;obtain⟨b,o,rfl,hb,hce⟩:=HL.out k x ac;have kH:eK Dr w wr:=cw.out;obtain⟨⟨xh,xf,xt,xs,xA,xn,xc⟩,cc⟩:=x;have f0:wr.cell? ⟨b,o+k * 5,none⟩=some (.int .i64 xh):=(kH.cell (p:=⟨b,o+k * 5,none⟩) hb).trans (hce 0 _ rfl);have f1:wr.cell? ⟨b,o+k * 5+1,none⟩=some (.int .i64 xf):=(kH.cell (p:=⟨b,o+k * 5+1,none⟩) hb).trans (hce 1 _ rfl);have f2:wr.cell? ⟨b,o+k * 5+2,none⟩=some (.int .i64 xt):=(kH.cell (p:=⟨b,o+k * 5+2,none⟩) hb).trans (hce 2 _ rfl);have f3:wr.cell? ⟨b,o+k * 5+3,none⟩=some (.string xs):=(kH.cell (p:=⟨b,o+k * 5+3,none⟩) hb).trans (hce 3 _ rfl);have f4:wr.cell? ⟨b,o+k * 5+4,none⟩=some (.slice xA xn xc):=(kH.cell (p:=⟨b,o+k * 5+4,none⟩) hb).trans (hce 4 _ rfl);have ut:=jq ac;clear hce ac;have bL:(0:Int)<=(k:Int):=by omega
   have bY:(k:Int)<(n:Int):=by omega
   obtain⟨w2,ag⟩:=abK (wr.alloc (.cells #[.int .i64 xh,.int .i64 xf,.int .i64 xt,.string xs,.slice xA xn xc] 46));have aO:w2.heap.size=wr.heap.size+1:=by rw[<-ag];simp
   have ab:Below wr.heap.size wr w2:=by rw[<-ag];exact (vQ _ _).alloc (bQ _) _
   have p0:w2.cell? ⟨wr.heap.size,0,none⟩=some (.int .i64 xh):=by rw[<-ag];simp[go_sem]
   have p1:w2.cell? ⟨wr.heap.size,1,none⟩=some (.int .i64 xf):=by rw[<-ag];simp[go_sem]
   have p2:w2.cell? ⟨wr.heap.size,2,none⟩=some (.int .i64 xt):=by rw[<-ag];simp[go_sem]
   have p3:w2.cell? ⟨wr.heap.size,3,none⟩=some (.string xs):=by rw[<-ag];simp[go_sem]
   have p4:w2.cell? ⟨wr.heap.size,4,none⟩=some (.slice xA xn xc):=by rw[<-ag];simp[go_sem]
   have GC:eK Dr w w2:=kH.of_below ab;have qO:=(GC.cell (p:=⟨Ob,0,none⟩) hO).trans KO.out;have ai:=jq ab;have em:=jq GC;clear kH ab GC;gi_wp2_with fail;refine⟨trivial,rfl,?_⟩;refine (callsIn_wide.2 (HP.out _ (gQ ut.out) w2 em.out)).mono ?_;rintro e w3 ⟨rfl,ah⟩;replace p0:=abZ ah p0;replace p1:=abZ ah p1;replace p2:=abZ ah p2;replace p3:=abZ ah p3;replace p4:=abZ ah p4;have fW:=ah.size;have B6:Below wr.heap.size wr w3:=ai.out.trans (ah.acQ);have Ck:=hJ _ _ _ _ hj (ItStep.of_below B6);have aB:=jq (cw.out.of_below B6);have HT:=jq (Zf (p:=p) ut.out);clear ag ah hj qO
   cases aU:p (⟨xh,xf,xt,xs,xA,xn,xc⟩,cc) with
   | false=>
    have HX:=jq aU;clear aU B6;gi_wp2_with fail;refine⟨λ_ _=>trivial,?_⟩;gi_wp2_with fail;go_roundw
    case rel=>exact⟨k+1,S1,by omega,by go_num,by rw[HT.out,HX.out];exact Ck,λk e=>by have:=bU k e;omega,aM,aB,by omega⟩
    case measure=>simp[intOf] <;> omega
   | true=>
    have HX:=jq aU;have gD:(L.take k).filter p ++ [(⟨xh,xf,xt,xs,xA,xn,xc⟩,cc)] <+: L.filter p:=by
     have h1:=HT.out;rw[HX.out,Qb rfl] at h1;rw[<-h1];exact Zg p L (k+1)
    obtain⟨fn,tmps,assign,body,hy,hR⟩:=hY ((L.take k).filter p) (⟨xh,xf,xt,xs,xA,xn,xc⟩,cc) S1 w3 gD Ck (λk e=>by have:=bU k e;omega) (by omega);have nY:Sem.run prog (Instr.yield l #[.agg #[.int .i64 xh,.int .i64 xf,.int .i64 xt,.string xs,.slice xA xn xc]]) w3 = .ok (.round l fn tmps assign body) w3:=hy;have Qi:=jq gD;clear hy gD aU B6;gi_wp2_with fail;refine⟨rfl,hR.mono ?_⟩;rintro e w4 ⟨S4,aA,L2,Uw,(⟨rfl,Ta⟩ | ⟨rfl,Tb⟩)⟩
    ·have bJ:Hid (eK Dr w w4):=jq (aB.out.round aA (λk e hd=>by
      rcases aM k e with e | e
      ·exact hS k e hd
      ·have:=(HW.out.2 k hd).1;omega))
     have gX:=aA.size;clear aA nY hR;gi_wp2_with fail;go_roundw
     case rel=>
      refine⟨k+1,S4,by omega,by go_num,by rw[HT.out,HX.out];exact Ta,Uw,λk e=>?_,bJ,by omega⟩;rcases L2 k e with e | e
      ·exact aM k e
      ·right;omega
     case measure=>simp[intOf] <;> omega
    ·have gX:=aA.size;clear aA nY hR;gi_wp2_with fail;refine bodyPost_ret (results_none rfl _ _ _) rfl ?_;refine⟨⟨_,rfl⟩,.inr ⟨_,S4,Qi.out,Tb,λk e=>?_⟩⟩;rcases L2 k e with e | e
     ·exact aM k e
     ·right;omega
  ·have jO:Hid (L.take k=L):=jq (kQ (by rw[jL.out];omega));rw[jO.out] at hj;gi_wp2_with fail;go_end0;exact⟨⟨_,rfl⟩,.inl ⟨S1,hj,aM⟩⟩
end
section
open Go.RowKit
theorem Sd:∀ args w,(callFunc 138 args).run prog w = .ok (.enter 138 args) w:=enters_of func138 (by kernel_rfl) rfl
theorem Sa:∀ args w,(callFunc 141 args).run prog w = .ok (.enter 141 args) w:=enters_of func141 (by kernel_rfl) rfl
theorem Xr(h f u:Int)(s:ByteArray)(v:Value)(A:Option Addr)(n c:Nat)(hv:v = .slice A n c)(bz:Nat)(z:ByteArray)(w:World)(hb:bz<w.heap.size)(ht:w.cell? ⟨bz,0,none⟩=some (.string z)) :
 Calls prog 138 #[.agg #[.int .i64 h,.int .i64 f,.int .i64 u,.string s,v],.pointer (some ⟨bz,0,none⟩)] w (aeJ w.heap.size w (.bool (s.data.toList == z.data.toList))):=by
 subst hv;obtain⟨W1,am⟩:=abK (w.alloc (.cells #[.int .i64 h,.int .i64 f,.int .i64 u,.string s,.slice A n c] 46));have an:Below w.heap.size w W1:=by rw[<-am];exact (vQ _ _).alloc (bQ _) _
 have k1:W1.cell? ⟨w.heap.size,3,none⟩=some (.string s):=by rw[<-am];simp[go_sem]
 have kt:=(an.cell (p:=⟨bz,0,none⟩) hb).trans ht;have HB:=jq an;obtain⟨q,hq⟩:=abK (s.toList == z.toList);have HQ:Hid ((s.data.toList == z.data.toList)=q):=jq (by rw[<-hq,dQ,dQ]);clear an;rw[HQ.out];go_enter func138,ntmps138;go_wp2_with fail;go_ret;exact⟨rfl,HB.out⟩
theorem Ug(e:List Value)(h:Np.Hist)(hf:Np.ww h)(w:World)(hR:f9 w w.heap.size)(hh:jg w w.heap.size e h) :
 Calls prog 56 #[.agg e.toArray] w (aeJ w.heap.size w (.bool (Np.yes (Np.VHist h)))):=by
 obtain⟨hv,cv,s,dv,cX,rfl,h1,h2,h3,h4,h5,h6⟩:=hh;obtain⟨hosts,copies,⟨name,ty,life,data⟩,hints,drift,stop⟩:=h;dsimp only at h1 h3 h4 h5 h6;subst h1;exact Ln _ hosts _ copies s h2 ty life _ data _ hints drift stop hf.1 hf.2 _ hR h3 h4 h5 h6
end
section
open Go.RowKit Go.Shelf
attribute [local go_sem] Oper.semAt_some
attribute [local go_sem] CV.cells
theorem aG.formN{base n:Nat}{w:World}{v:Value}{ps:List Np.Span}(h:aG base w v ps)(hn:ps.length=n):∃ A c,v = .slice A n c:=by subst hn;exact h.form
end
section
open Go.ChangeShapes Go.WideShapes Go.ChangeAt Go.RowKit Go.Deep
def pL{α:Type}(R:afQ α)(P:α->Prop)(W:World)(B:Nat)(e:List Value)(x:α):Prop:=R W B e x/\P x
theorem SlR.both{α:Type}{R:afQ α}{P:α->Prop}{sz:Nat}{W:World}{B:Nat}{v:Value}{xs:List α}(h:SlR (pL R P) sz W B v xs):SlR R sz W B v xs/\∀ x∈xs,P x:=by
 obtain⟨A,c,h1,h2,h3,h4⟩:=h;refine⟨⟨A,c,h1,h2,h3,λi x hx=>?_⟩,λx hx=>?_⟩
 ·obtain⟨b,o,e,k1,k2,k3,k4,k5,_⟩:=h4 i x hx;exact⟨b,o,e,k1,k2,k3,k4,k5⟩
 ·obtain⟨i,hi⟩:=List.mem_iff_getElem?.1 hx;obtain⟨b,o,e,_,_,_,_,_,k⟩:=h4 i x hi;exact k
def JC(g:Np.Sig):Prop:=0<=g.sum/\g.sum<18446744073709551616
def JE(z:Np.Zone):Prop:=∀ s∈z.sets,Np.uH s
def JD(c:Np.Copy):Prop:=JE c.zone
theorem Zq{x:Int}(h:(Lit.int .u64 x).wf=true):0<=x/\x<18446744073709551616:=by
 have:=bounds_u64 h
 omega
theorem Ru:prog.cellsOf 24=1:=by kernel_rfl
theorem Rx:prog.cellsOf 40=1:=by kernel_rfl
theorem Ry:prog.cellsOf 36=1:=by kernel_rfl
theorem Rz:prog.cellsOf 48=1:=by kernel_rfl
theorem JZ:prog.cellsOf 26=4:=by kernel_rfl
theorem RA:prog.cellsOf 44=2:=by kernel_rfl
theorem Rv:prog.cellsOf 22=1:=by kernel_rfl
theorem Rt:prog.cellsOf 23=1:=by kernel_rfl
theorem Rw:prog.cellsOf 27=1:=by kernel_rfl
def RSet(W:World)(B:Nat)(e:List Value)(x:Np.DSet):Prop:=∃ (s:ByteArray) (v:Value),s.data.toList=x.name/\s.size<=140737488355328/\SlR bW 3 W B v x.data/\e = [.string s,.int .i64 x.type,.int .i64 x.life,v]
theorem XL:gM prog 128 3 bW:=by
 intro H enc W base spare held fuel cs d ps h hw;obtain⟨hl,hf⟩:=rU underlying128 h hw;have hl':cs.length=3:=hl.trans (by kernel_rfl);clear hl
 match cs,hl' with
 | [c0,c1,c2],_=>
  obtain⟨n0,d0,p0,t0,w0⟩:=hf 0 _ rfl;have t0':DataW.trod enc prog W base spare held n0 9 (([c0,c1,c2].drop 0).take (prog.cellsOf 9))=some (d0,p0):=t0;rw[xR] at t0';have u0:DataW.trod enc prog W base spare held n0 9 [c0]=some (d0,p0):=t0';obtain⟨n1,d1,p1,t1,w1⟩:=hf 1 _ rfl;have t1':DataW.trod enc prog W base spare held n1 3 (([c0,c1,c2].drop 1).take (prog.cellsOf 3))=some (d1,p1):=t1;rw[gO] at t1';have u1:DataW.trod enc prog W base spare held n1 3 [c1]=some (d1,p1):=t1';obtain⟨n2,d2,p2,t2,w2⟩:=hf 2 _ rfl;have t2':DataW.trod enc prog W base spare held n2 3 (([c0,c1,c2].drop 2).take (prog.cellsOf 3))=some (d2,p2):=t2;rw[gO] at t2';have u2:DataW.trod enc prog W base spare held n2 3 [c2]=some (d2,p2):=t2';obtain⟨_,_,s0,_,gW,bM⟩:=zZ underlying9 H enc W base spare held n0 _ _ _ u0 w0;obtain rfl:c0 = .string s0:=by simpa using bM
  obtain⟨_,x1,bA,wf1⟩:=jz underlying3 H enc W base spare held n1 _ _ _ u1 w1;obtain rfl:c1 = .int .i64 x1:=by simpa using bA
  obtain⟨_,x2,kI,wf2⟩:=jz underlying3 H enc W base spare held n2 _ _ _ u2 w2;obtain rfl:c2 = .int .i64 x2:=by simpa using kI
  exact⟨rfl,⟨s0.data.toList,x1,x2⟩,s0,rfl,gW,rfl⟩
theorem XK:gM prog 24 1 (RSl bW 3):=vR underlying24 (by kernel_rfl) (by decide) (of_decide_eq_true (by kernel_rfl)) XL
theorem Nk:gM prog 26 4 RSet:=by
 intro H enc W base spare held fuel cs d ps h hw;obtain⟨hl,hf⟩:=rU underlying26 h hw;have hl':cs.length=4:=hl.trans (by kernel_rfl);clear hl
 match cs,hl' with
 | [c0,c1,c2,c3],_=>
  obtain⟨n0,d0,p0,t0,w0⟩:=hf 0 _ rfl;have t0':DataW.trod enc prog W base spare held n0 9 (([c0,c1,c2,c3].drop 0).take (prog.cellsOf 9))=some (d0,p0):=t0;rw[xR] at t0';have u0:DataW.trod enc prog W base spare held n0 9 [c0]=some (d0,p0):=t0';obtain⟨n1,d1,p1,t1,w1⟩:=hf 1 _ rfl;have t1':DataW.trod enc prog W base spare held n1 3 (([c0,c1,c2,c3].drop 1).take (prog.cellsOf 3))=some (d1,p1):=t1;rw[gO] at t1';have u1:DataW.trod enc prog W base spare held n1 3 [c1]=some (d1,p1):=t1';obtain⟨n2,d2,p2,t2,w2⟩:=hf 2 _ rfl;have t2':DataW.trod enc prog W base spare held n2 3 (([c0,c1,c2,c3].drop 2).take (prog.cellsOf 3))=some (d2,p2):=t2;rw[gO] at t2';have u2:DataW.trod enc prog W base spare held n2 3 [c2]=some (d2,p2):=t2';obtain⟨n3,d3,p3,t3,w3⟩:=hf 3 _ rfl;have t3':DataW.trod enc prog W base spare held n3 24 (([c0,c1,c2,c3].drop 3).take (prog.cellsOf 24))=some (d3,p3):=t3;rw[Ru] at t3';have u3:DataW.trod enc prog W base spare held n3 24 [c3]=some (d3,p3):=t3';obtain⟨_,_,s0,_,gW,bM⟩:=zZ underlying9 H enc W base spare held n0 _ _ _ u0 w0;obtain rfl:c0 = .string s0:=by simpa using bM
  obtain⟨_,x1,bA,wf1⟩:=jz underlying3 H enc W base spare held n1 _ _ _ u1 w1;obtain rfl:c1 = .int .i64 x1:=by simpa using bA
  obtain⟨_,x2,kI,wf2⟩:=jz underlying3 H enc W base spare held n2 _ _ _ u2 w2;obtain rfl:c2 = .int .i64 x2:=by simpa using kI
  obtain⟨_,x3,v3,nX,Gp⟩:=XK H enc W base spare held n3 _ _ _ u3 w3;obtain rfl:c3=v3:=by simpa using nX
  exact⟨rfl,⟨s0.data.toList,x1,x2,x3⟩,s0,_,rfl,gW,Gp,rfl⟩
theorem XR:gM prog 50 6 (pL cV JC):=by
 intro H enc W base spare held fuel cs d ps h hw;obtain⟨hl,hf⟩:=rU underlying50 h hw;have hl':cs.length=6:=hl.trans (by kernel_rfl);clear hl
 match cs,hl' with
 | [c0,c1,c2,c3,c4,c5],_=>
  obtain⟨n0,d0,p0,t0,w0⟩:=hf 0 _ rfl;have t0':DataW.trod enc prog W base spare held n0 9 (([c0,c1,c2,c3,c4,c5].drop 0).take (prog.cellsOf 9))=some (d0,p0):=t0;rw[xR] at t0';have u0:DataW.trod enc prog W base spare held n0 9 [c0]=some (d0,p0):=t0';obtain⟨n1,d1,p1,t1,w1⟩:=hf 1 _ rfl;have t1':DataW.trod enc prog W base spare held n1 3 (([c0,c1,c2,c3,c4,c5].drop 1).take (prog.cellsOf 3))=some (d1,p1):=t1;rw[gO] at t1';have u1:DataW.trod enc prog W base spare held n1 3 [c1]=some (d1,p1):=t1';obtain⟨n2,d2,p2,t2,w2⟩:=hf 2 _ rfl;have t2':DataW.trod enc prog W base spare held n2 3 (([c0,c1,c2,c3,c4,c5].drop 2).take (prog.cellsOf 3))=some (d2,p2):=t2;rw[gO] at t2';have u2:DataW.trod enc prog W base spare held n2 3 [c2]=some (d2,p2):=t2';obtain⟨n3,d3,p3,t3,w3⟩:=hf 3 _ rfl;have t3':DataW.trod enc prog W base spare held n3 3 (([c0,c1,c2,c3,c4,c5].drop 3).take (prog.cellsOf 3))=some (d3,p3):=t3;rw[gO] at t3';have u3:DataW.trod enc prog W base spare held n3 3 [c3]=some (d3,p3):=t3';obtain⟨n4,d4,p4,t4,w4⟩:=hf 4 _ rfl;have t4':DataW.trod enc prog W base spare held n4 3 (([c0,c1,c2,c3,c4,c5].drop 4).take (prog.cellsOf 3))=some (d4,p4):=t4;rw[gO] at t4';have u4:DataW.trod enc prog W base spare held n4 3 [c4]=some (d4,p4):=t4';obtain⟨n5,d5,p5,t5,w5⟩:=hf 5 _ rfl;have t5':DataW.trod enc prog W base spare held n5 48 (([c0,c1,c2,c3,c4,c5].drop 5).take (prog.cellsOf 48))=some (d5,p5):=t5;rw[Rz] at t5';have u5:DataW.trod enc prog W base spare held n5 48 [c5]=some (d5,p5):=t5';obtain⟨_,_,s0,_,gW,bM⟩:=zZ underlying9 H enc W base spare held n0 _ _ _ u0 w0;obtain rfl:c0 = .string s0:=by simpa using bM
  obtain⟨_,x1,bA,wf1⟩:=jz underlying3 H enc W base spare held n1 _ _ _ u1 w1;obtain rfl:c1 = .int .i64 x1:=by simpa using bA
  obtain⟨_,x2,kI,wf2⟩:=jz underlying3 H enc W base spare held n2 _ _ _ u2 w2;obtain rfl:c2 = .int .i64 x2:=by simpa using kI
  obtain⟨_,x3,nX,wf3⟩:=jz underlying3 H enc W base spare held n3 _ _ _ u3 w3;obtain rfl:c3 = .int .i64 x3:=by simpa using nX
  obtain⟨_,x4,vH,wf4⟩:=jz underlying3 H enc W base spare held n4 _ _ _ u4 w4;obtain rfl:c4 = .int .i64 x4:=by simpa using vH
  obtain⟨_,x5,zJ,wf5⟩:=jz underlying48 H enc W base spare held n5 _ _ _ u5 w5;obtain rfl:c5 = .int .u64 x5:=by simpa using zJ
  exact⟨rfl,⟨s0.data.toList,x1,x2,x3,x4,x5⟩,⟨s0,rfl,gW,rfl⟩,Zq wf5⟩
theorem XU:gM prog 40 1 (RSl (pL cV JC) 6):=vR underlying40 (by kernel_rfl) (by decide) (of_decide_eq_true (by kernel_rfl)) XR
theorem XS:gM prog 42 5 (pL cA Np.uH):=by
 intro H enc W base spare held fuel cs d ps h hw;obtain⟨hl,hf⟩:=rU underlying42 h hw;have hl':cs.length=5:=hl.trans (by kernel_rfl);clear hl
 match cs,hl' with
 | [c0,c1,c2,c3,c4],_=>
  obtain⟨n0,d0,p0,t0,w0⟩:=hf 0 _ rfl;have t0':DataW.trod enc prog W base spare held n0 26 (([c0,c1,c2,c3,c4].drop 0).take (prog.cellsOf 26))=some (d0,p0):=t0;rw[JZ] at t0';have u0:DataW.trod enc prog W base spare held n0 26 [c0,c1,c2,c3]=some (d0,p0):=t0';obtain⟨n1,d1,p1,t1,w1⟩:=hf 1 _ rfl;have t1':DataW.trod enc prog W base spare held n1 40 (([c0,c1,c2,c3,c4].drop 4).take (prog.cellsOf 40))=some (d1,p1):=t1;rw[Rx] at t1';have u1:DataW.trod enc prog W base spare held n1 40 [c4]=some (d1,p1):=t1';obtain⟨_,x0,bM⟩:=Nk H enc W base spare held n0 _ _ _ u0 w0;obtain⟨_,x1,v1,bA,rI⟩:=XU H enc W base spare held n1 _ _ _ u1 w1;obtain rfl:c4=v1:=by simpa using bA
  obtain⟨sa,va,ha,hb,hc,hd⟩:=bM;exact⟨rfl,⟨x0,x1⟩,⟨sa,va,_,ha,hb,hc,rI.both.1,by rw[List.cons.injEq,List.cons.injEq,List.cons.injEq,List.cons.injEq] at hd;obtain⟨rfl,rfl,rfl,rfl,_⟩:=hd;rfl⟩,rI.both.2⟩
theorem XT:gM prog 36 1 (RSl (pL cA Np.uH) 5):=vR underlying36 (by kernel_rfl) (by decide) (of_decide_eq_true (by kernel_rfl)) XS
theorem XV:gM prog 44 2 (pL QQ JE):=by
 intro H enc W base spare held fuel cs d ps h hw;obtain⟨hl,hf⟩:=rU underlying44 h hw;have hl':cs.length=2:=hl.trans (by kernel_rfl);clear hl
 match cs,hl' with
 | [c0,c1],_=>
  obtain⟨n0,d0,p0,t0,w0⟩:=hf 0 _ rfl;have t0':DataW.trod enc prog W base spare held n0 9 (([c0,c1].drop 0).take (prog.cellsOf 9))=some (d0,p0):=t0;rw[xR] at t0';have u0:DataW.trod enc prog W base spare held n0 9 [c0]=some (d0,p0):=t0';obtain⟨n1,d1,p1,t1,w1⟩:=hf 1 _ rfl;have t1':DataW.trod enc prog W base spare held n1 36 (([c0,c1].drop 1).take (prog.cellsOf 36))=some (d1,p1):=t1;rw[Ry] at t1';have u1:DataW.trod enc prog W base spare held n1 36 [c1]=some (d1,p1):=t1';obtain⟨_,_,s0,_,gW,bM⟩:=zZ underlying9 H enc W base spare held n0 _ _ _ u0 w0;obtain rfl:c0 = .string s0:=by simpa using bM
  obtain⟨_,x1,v1,bA,rI⟩:=XT H enc W base spare held n1 _ _ _ u1 w1;obtain rfl:c1=v1:=by simpa using bA
  exact⟨rfl,⟨s0.data.toList,x1⟩,⟨s0,_,rfl,gW,rI.both.1,rfl⟩,rI.both.2⟩
theorem XJ:gM prog 46 5 (pL mG JD):=by
 intro H enc W base spare held fuel cs d ps h hw;obtain⟨hl,hf⟩:=rU underlying46 h hw;have hl':cs.length=5:=hl.trans (by kernel_rfl);clear hl
 match cs,hl' with
 | [c0,c1,c2,c3,c4],_=>
  obtain⟨n0,d0,p0,t0,w0⟩:=hf 0 _ rfl;have t0':DataW.trod enc prog W base spare held n0 3 (([c0,c1,c2,c3,c4].drop 0).take (prog.cellsOf 3))=some (d0,p0):=t0;rw[gO] at t0';have u0:DataW.trod enc prog W base spare held n0 3 [c0]=some (d0,p0):=t0';obtain⟨n1,d1,p1,t1,w1⟩:=hf 1 _ rfl;have t1':DataW.trod enc prog W base spare held n1 3 (([c0,c1,c2,c3,c4].drop 1).take (prog.cellsOf 3))=some (d1,p1):=t1;rw[gO] at t1';have u1:DataW.trod enc prog W base spare held n1 3 [c1]=some (d1,p1):=t1';obtain⟨n2,d2,p2,t2,w2⟩:=hf 2 _ rfl;have t2':DataW.trod enc prog W base spare held n2 3 (([c0,c1,c2,c3,c4].drop 2).take (prog.cellsOf 3))=some (d2,p2):=t2;rw[gO] at t2';have u2:DataW.trod enc prog W base spare held n2 3 [c2]=some (d2,p2):=t2';obtain⟨n3,d3,p3,t3,w3⟩:=hf 3 _ rfl;have t3':DataW.trod enc prog W base spare held n3 44 (([c0,c1,c2,c3,c4].drop 3).take (prog.cellsOf 44))=some (d3,p3):=t3;rw[RA] at t3';have u3:DataW.trod enc prog W base spare held n3 44 [c3,c4]=some (d3,p3):=t3';obtain⟨_,x0,bM,wf0⟩:=jz underlying3 H enc W base spare held n0 _ _ _ u0 w0;obtain rfl:c0 = .int .i64 x0:=by simpa using bM
  obtain⟨_,x1,bA,wf1⟩:=jz underlying3 H enc W base spare held n1 _ _ _ u1 w1;obtain rfl:c1 = .int .i64 x1:=by simpa using bA
  obtain⟨_,x2,kI,wf2⟩:=jz underlying3 H enc W base spare held n2 _ _ _ u2 w2;obtain rfl:c2 = .int .i64 x2:=by simpa using kI
  obtain⟨_,x3,nX⟩:=XV H enc W base spare held n3 _ _ _ u3 w3;obtain⟨⟨sa,va,ha,hb,hc,hd⟩,hp⟩:=nX;exact⟨rfl,⟨x0,x1,x2,x3⟩,⟨sa,va,ha,hb,hc,by rw[List.cons.injEq,List.cons.injEq] at hd;obtain⟨rfl,rfl,_⟩:=hd;rfl⟩,hp⟩
theorem XI:gM prog 23 1 (RSl (pL mG JD) 5):=vR underlying23 (by kernel_rfl) (by decide) (of_decide_eq_true (by kernel_rfl)) XJ
theorem XN:gM prog 101 3 kl:=by
 intro H enc W base spare held fuel cs d ps h hw;obtain⟨hl,hf⟩:=rU underlying101 h hw;have hl':cs.length=3:=hl.trans (by kernel_rfl);clear hl
 match cs,hl' with
 | [c0,c1,c2],_=>
  obtain⟨n0,d0,p0,t0,w0⟩:=hf 0 _ rfl;have t0':DataW.trod enc prog W base spare held n0 9 (([c0,c1,c2].drop 0).take (prog.cellsOf 9))=some (d0,p0):=t0;rw[xR] at t0';have u0:DataW.trod enc prog W base spare held n0 9 [c0]=some (d0,p0):=t0';obtain⟨n1,d1,p1,t1,w1⟩:=hf 1 _ rfl;have t1':DataW.trod enc prog W base spare held n1 3 (([c0,c1,c2].drop 1).take (prog.cellsOf 3))=some (d1,p1):=t1;rw[gO] at t1';have u1:DataW.trod enc prog W base spare held n1 3 [c1]=some (d1,p1):=t1';obtain⟨n2,d2,p2,t2,w2⟩:=hf 2 _ rfl;have t2':DataW.trod enc prog W base spare held n2 3 (([c0,c1,c2].drop 2).take (prog.cellsOf 3))=some (d2,p2):=t2;rw[gO] at t2';have u2:DataW.trod enc prog W base spare held n2 3 [c2]=some (d2,p2):=t2';obtain⟨_,_,s0,_,gW,bM⟩:=zZ underlying9 H enc W base spare held n0 _ _ _ u0 w0;obtain rfl:c0 = .string s0:=by simpa using bM
  obtain⟨_,x1,bA,wf1⟩:=jz underlying3 H enc W base spare held n1 _ _ _ u1 w1;obtain rfl:c1 = .int .i64 x1:=by simpa using bA
  obtain⟨_,x2,kI,wf2⟩:=jz underlying3 H enc W base spare held n2 _ _ _ u2 w2;obtain rfl:c2 = .int .i64 x2:=by simpa using kI
  exact⟨rfl,⟨s0.data.toList,x1,x2⟩,s0,rfl,gW,rfl⟩
theorem XO:gM prog 22 1 (RSl kl 3):=vR underlying22 (by kernel_rfl) (by decide) (of_decide_eq_true (by kernel_rfl)) XN
theorem XP:gM prog 3 1 gL:=λH enc W base spare held fuel cs d ps h hw=>by
 obtain⟨h1,x,h2,_⟩:=jz underlying3 H enc W base spare held fuel cs d ps h hw;exact⟨h1,x,h2⟩
theorem XQ:gM prog 27 1 (RSl gL 1):=vR underlying27 (by kernel_rfl) (by decide) (of_decide_eq_true (by kernel_rfl)) XP
theorem XM:gM prog 29 9 (pL jg Np.lS):=by
 intro H enc W base spare held fuel cs d ps h hw;obtain⟨hl,hf⟩:=rU underlying29 h hw;have hl':cs.length=9:=hl.trans (by kernel_rfl);clear hl
 match cs,hl' with
 | [c0,c1,c2,c3,c4,c5,c6,c7,c8],_=>
  obtain⟨n0,d0,p0,t0,w0⟩:=hf 0 _ rfl;have t0':DataW.trod enc prog W base spare held n0 22 (([c0,c1,c2,c3,c4,c5,c6,c7,c8].drop 0).take (prog.cellsOf 22))=some (d0,p0):=t0;rw[Rv] at t0';have u0:DataW.trod enc prog W base spare held n0 22 [c0]=some (d0,p0):=t0';obtain⟨n1,d1,p1,t1,w1⟩:=hf 1 _ rfl;have t1':DataW.trod enc prog W base spare held n1 23 (([c0,c1,c2,c3,c4,c5,c6,c7,c8].drop 1).take (prog.cellsOf 23))=some (d1,p1):=t1;rw[Rt] at t1';have u1:DataW.trod enc prog W base spare held n1 23 [c1]=some (d1,p1):=t1';obtain⟨n2,d2,p2,t2,w2⟩:=hf 2 _ rfl;have t2':DataW.trod enc prog W base spare held n2 26 (([c0,c1,c2,c3,c4,c5,c6,c7,c8].drop 2).take (prog.cellsOf 26))=some (d2,p2):=t2;rw[JZ] at t2';have u2:DataW.trod enc prog W base spare held n2 26 [c2,c3,c4,c5]=some (d2,p2):=t2';obtain⟨n3,d3,p3,t3,w3⟩:=hf 3 _ rfl;have t3':DataW.trod enc prog W base spare held n3 27 (([c0,c1,c2,c3,c4,c5,c6,c7,c8].drop 6).take (prog.cellsOf 27))=some (d3,p3):=t3;rw[Rw] at t3';have u3:DataW.trod enc prog W base spare held n3 27 [c6]=some (d3,p3):=t3';obtain⟨n4,d4,p4,t4,w4⟩:=hf 4 _ rfl;have t4':DataW.trod enc prog W base spare held n4 3 (([c0,c1,c2,c3,c4,c5,c6,c7,c8].drop 7).take (prog.cellsOf 3))=some (d4,p4):=t4;rw[gO] at t4';have u4:DataW.trod enc prog W base spare held n4 3 [c7]=some (d4,p4):=t4';obtain⟨n5,d5,p5,t5,w5⟩:=hf 5 _ rfl;have t5':DataW.trod enc prog W base spare held n5 3 (([c0,c1,c2,c3,c4,c5,c6,c7,c8].drop 8).take (prog.cellsOf 3))=some (d5,p5):=t5;rw[gO] at t5';have u5:DataW.trod enc prog W base spare held n5 3 [c8]=some (d5,p5):=t5';obtain⟨_,x0,v0,bM,UX⟩:=XO H enc W base spare held n0 _ _ _ u0 w0;obtain rfl:c0=v0:=by simpa using bM
  obtain⟨_,x1,v1,bA,rI⟩:=XI H enc W base spare held n1 _ _ _ u1 w1;obtain rfl:c1=v1:=by simpa using bA
  obtain⟨_,x2,kI⟩:=Nk H enc W base spare held n2 _ _ _ u2 w2;obtain⟨_,x3,v3,nX,Gp⟩:=XQ H enc W base spare held n3 _ _ _ u3 w3;obtain rfl:c6=v3:=by simpa using nX
  obtain⟨_,x4,vH,wf4⟩:=jz underlying3 H enc W base spare held n4 _ _ _ u4 w4;obtain rfl:c7 = .int .i64 x4:=by simpa using vH
  obtain⟨_,x5,zJ,wf5⟩:=jz underlying3 H enc W base spare held n5 _ _ _ u5 w5;obtain rfl:c8 = .int .i64 x5:=by simpa using zJ
  obtain⟨sa,va,ha,hb,hc,hd⟩:=kI;exact⟨rfl,⟨x0,x1,x2,x3,x4,x5⟩,⟨_,_,sa,va,_,by rw[List.cons.injEq,List.cons.injEq,List.cons.injEq,List.cons.injEq] at hd;obtain⟨rfl,rfl,rfl,rfl,_⟩:=hd;rfl,ha,hb,UX,rI.both.1,hc,Gp⟩,rI.both.2⟩
theorem Rd{α:Type}{P:Program}{t:TypeId}{sz:Nat}{R:afQ α}{fs:Array Field}(hs:P.underlying t=some (.struct fs))(hR:gM P t sz R){H:Type}{enc:TypeId×Value->H}{W:World}{r:Reach}{base b0:Nat}{spare:Nat->Bool}{held:Bool}{v:Value}{d:DataW H}{p:List MemPlace}
 (hv:Value.okWide P W r b0 t v) (h:DataW.Trod enc P W base spare held t v d p) (hw:∀ n∈d.weights P t,n<=reachBytes):∃ (cs:List Value) (x:α),v = .agg cs.toArray/\R W W.heap.size cs x:=by
 obtain⟨cs,rfl,_⟩:=okWide_struct hs hv;obtain⟨fuel,hf⟩:=h;obtain⟨_,x,hx⟩:=hR H enc W base spare held fuel _ d p hf hw;exact⟨_,x,by simp[Value.cells],hx⟩
theorem G7{H:Type}{P:Program}{ts:List TypeId}{ds:List (DataW H)}(h:(DataW.weightsEach P ts ds).all (·<=reachBytes)=true){j:Nat}{t:TypeId}{d:DataW H}(ht:ts[j]?=some t)(hd:ds[j]?=some d):∀ n∈d.weights P t,n<=reachBytes:=
 λn hn=>by simpa using List.all_eq_true.1 h n (DataW.weights_mem_each ht hd n hn)

end
end Go.Proofs.YtfnopgdcaanaiaaGreatDoor
