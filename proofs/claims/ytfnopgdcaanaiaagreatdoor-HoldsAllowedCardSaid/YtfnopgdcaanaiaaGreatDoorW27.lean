/- Parts of the proof. No condition. -/
import Derived.Test.YtfnopgdcaanaiaaGreatDoorW20
set_option linter.all false
set_option maxRecDepth 100000
set_option maxHeartbeats 8000000
namespace Go.Proofs.YtfnopgdcaanaiaaGreatDoor
open Go.Proofs.Tryz
section
open Go.RowKit Go.Shelf
attribute [local go_sem] Oper.semAt_some
structure HC where
 z:ByteArray
 s:ByteArray
 ty:Int
 lf:Int
 dA:Option Addr
 dn:Nat
 dc:Nat
 gA:Option Addr
 gn:Nat
 gc:Nat
 fA:Option Addr
 fn:Nat
 fc:Nat
 pA:Option Addr
 pn:Nat
 pc:Nat
def HC.cells(x:HC):Array Value:=#[.string x.z,.string x.s,.int .i64 x.ty,.int .i64 x.lf,.slice x.dA x.dn x.dc,.slice x.gA x.gn x.gc,.slice x.fA x.fn x.fc,.slice x.pA x.pn x.pc]
structure uk(w:World)(B:Nat)(x:HC)(h:Np.Held):Prop where
 zone:x.z.data.toList=h.zone
 name:x.s.data.toList=h.signed.set.name
 short:x.s.size<=140737488355328
 type:x.ty=h.signed.set.type
 life:x.lf=h.signed.set.life
 data:SlR bK 3 w B (.slice x.dA x.dn x.dc) h.signed.set.data
 sigs:SlR dl 6 w B (.slice x.gA x.gn x.gc) h.signed.sigs
 spans:SlR eJ 2 w B (.slice x.pA x.pn x.pc) h.spans
theorem uk.keep{w w':World}{B:Nat}{x:HC}{h:Np.Held}(k:uk w B x h)(hb:Below B w w'):uk w' B x h:=⟨k.zone,k.name,k.short,k.type,k.life,k.data.keep cM hb,k.sigs.keep dD hb,k.spans.keep iu hb⟩
theorem Wm{w:World}{B n c:Nat}{A:Option Addr}{xs:List Np.Held}(h:SlR ie 8 w B (.slice A n c) xs){k:Nat}{x:Np.Held}(hx:xs[k]?=some x):∃ (b o:Nat) (z s:ByteArray) (dv sv fv pv:Value),A=some ⟨b,o,none⟩/\b<B/\z.data.toList=x.zone/\s.data.toList=x.signed.set.name/\s.size<=140737488355328/\
 SlR bK 3 w B dv x.signed.set.data/\SlR dl 6 w B sv x.signed.sigs/\SlR eJ 2 w B fv x.fresh/\SlR eJ 2 w B pv x.spans/\
 ek w b (o+k * 8) [.string z,.string s,.int .i64 x.signed.set.type,.int .i64 x.signed.set.life,dv,sv,fv,pv]:=by
 obtain⟨A',c',hA',_,_,bX⟩:=h
 cases hA'
 obtain⟨b,o,e,hA,bD,hlen,hce,z,s,dv,sv,fv,pv,he,h1,_,h3,h4,h5,h6,h7,h8⟩:=bX k _ hx;subst he;exact⟨b,o,z,s,dv,sv,fv,pv,hA,bD,h1,h3,h4,h5,h6,h7,h8,hce⟩
theorem Nf{w:World}{B n c:Nat}{A:Option Addr}{xs:List Np.Held}(h:SlR ie 8 w B (.slice A n c) xs):∃ L:List (HC×Np.Held),L.map (·.2)=xs/\L.length=n/\∀ i x,L[i]?=some x->uk w B x.1 x.2/\∃ b o,A=some ⟨b,o,none⟩/\b<B/\ek w b (o+i * 8) x.1.cells.toList:=by
 have hn:n=xs.length:=by
  obtain⟨A',c',hA,_,_,_⟩:=h;simp only[Value.slice.injEq] at hA;exact hA.2.1
 have bG:∀ k,k<=xs.length->∃ L:List (HC×Np.Held),L.map (·.2)=xs.take k/\∀ i x,L[i]?=some x->uk w B x.1 x.2/\∃ b o,A=some ⟨b,o,none⟩/\b<B/\ek w b (o+i * 8) x.1.cells.toList:=by
  intro k
  induction k with
  | zero=>exact λ_=>⟨[],by simp,λi x hx=>by simp at hx⟩
  | succ k ih=>
   intro hk;obtain⟨L,h1,h2⟩:=ih (by omega);have hlen:L.length=k:=by have:=Qd List.length h1;simp at this;omega
   obtain⟨b,o,z,s,dv,sv,fv,pv,hA,hb,hz,hs,ip,aO,bh,rE,rO,hce⟩:=Wm h (aQ (by omega:k<xs.length));obtain⟨d1,d2,rfl,_⟩:=ak aO;obtain⟨g1,g2,rfl,_⟩:=ak bh;obtain⟨t1,t2,rfl,_⟩:=ak rE;obtain⟨p1,p2,rfl,_⟩:=ak rO;refine⟨L ++ [(⟨z,s,xs[k].signed.set.type,xs[k].signed.set.life,d1,xs[k].signed.set.data.length,d2,g1,xs[k].signed.sigs.length,g2,t1,xs[k].fresh.length,t2,p1,xs[k].spans.length,p2⟩,xs[k])],by rw[List.map_append,h1,fQ (by omega)];rfl,λi x hx=>?_⟩;rcases Nat.lt_or_ge i L.length with aa | oM
   ·rw[List.getElem?_append_left aa] at hx;exact h2 i x hx
   ·rw[oQ oM] at hx;have h0:i - L.length=0:=by have:=(cQ.1 hx).1;simp at this;omega
    rw[h0] at hx;simp at hx;subst hx;obtain rfl:i=k:=by omega
    exact⟨⟨hz,hs,ip,rfl,rfl,aO,bh,rO⟩,b,o,hA,hb,hce⟩
 obtain⟨L,h1,h2⟩:=bG xs.length (bQ _);rw[List.take_length] at h1;exact⟨L,h1,by rw[hn,<-h1,List.length_map],h2⟩
theorem M0(v:Value)(A:Option Addr)(n c:Nat)(hv:v = .slice A n c)(t:Int)(w:World) :
 Calls prog 58 #[v,.int .i64 t] w λe w'=>e = .returned (.func (.func 127) #[] #[.pointer (some ⟨w.heap.size,0,none⟩),.pointer (some ⟨w.heap.size+1,0,none⟩)])/\w'=(w.alloc (.cells #[v] 52)).alloc (.cells #[.int .i64 t] 3):=by
 subst hv;go_enter func58,ntmps58;go_wp2_with fail;go_ret;exact⟨rfl,rfl⟩
theorem Mp:∀ args w,(callFunc 127 args).run prog w = .ok (.enter 127 args) w:=enters_of func127 (by kernel_rfl) rfl
theorem M2(L:List (HC×Np.Held))(t:Int)(X Tb n c:Nat)(Dr:Nat->Prop)(A:Option Addr)(w:World)(hX:Dr X)(hT:Dr Tb)(kX:w.cell? ⟨X,0,none⟩=some (.slice A n c))(kT:w.cell? ⟨Tb,0,none⟩=some (.int .i64 t))(AA:L.length=n)(It:n<=20000)
 (hL:∀ i x,L[i]?=some x->∃ b o,A=some ⟨b,o,none⟩/\Dr b/\ek w b (o+i * 8) x.1.cells.toList)
 (hp:∀ x∈L,∀ W,eB Dr w W->SlR eJ 2 W W.heap.size (.slice x.1.pA x.1.pn x.1.pc) x.2.spans) :
 zK prog 127 (λy=>#[y,.pointer (some ⟨X,0,none⟩),.pointer (some ⟨Tb,0,none⟩)]) (λx:HC×Np.Held=>#[.agg x.1.cells]) (L.filter λx=>Np.t8 x.2.spans t) Dr w:=by
 intro l J Jx S W hW hJ Dl hY hS hS' h0;have k1:=(hW.cell (p:=⟨X,0,none⟩) hX).trans kX;have HW:=jq hW;have HL:=jq hL;have HP:=jq hp;have lB:=jq AA;have KT:=jq kT;have rt:=hW.1;obtain⟨p,Iy⟩:∃ p:HC×Np.Held->Bool,(λx=>Np.t8 x.2.spans t)=p:=⟨_,rfl⟩;have Sm:=jq (λx:HC×Np.Held=>congrFun Iy x);rw[Iy] at hY |-;clear hW hL hp kX AA kT Iy;refine callsIn_of_wp func127 rfl trivial ?_ rfl;simp only[ntmps127,List.size_toArray,List.length_cons,List.length_nil,Nat.reduceAdd,Nat.reduceSub,Array.replicate_succ,Array.replicate_zero,List.push_toArray,List.append_toArray,List.nil_append,List.cons_append];gi_wp2_with fail;gi_loopw [8] (λi wr=>∃ (k:Nat) (S1:Nat->Prop),k<=n/\i = .int .i64 k/\J ((L.take k).filter p) S1 wr/\(∀ k,S1 k->k<wr.heap.size)/\(∀ k,S1 k->S k\/W.heap.size<=k)/\Hid (eB Dr w wr)/\W.heap.size<=wr.heap.size) (λi _=>n - (intOf i).toNat)
 case atStart=>exact⟨0,S,jQ _,rfl,by simpa using h0,hS',λ_ e=>.inl e,HW,bQ _⟩
 case round=>
  obtain⟨k,S1,hk,rfl,hj,eh,bj,bC,an⟩:=hrel;by_cases aa:k<n
  ·obtain⟨x,ac⟩:∃ x,L[k]?=some x:=⟨_,aQ (by rw[lB.out];exact aa)⟩;obtain⟨b,o,rfl,hb,hce⟩:=HL.out k x ac;have gh:eB Dr w wr:=bC.out;have FH:=jq (gQ ac);obtain⟨⟨xz,xs,xty,xlf,dA,dn,dc,gA,gn,gc,fA,fn,fc,pA,pn,pc⟩,cc⟩:=x;have f0:wr.cell? ⟨b,o+k * 8,none⟩=some (.string xz):=(gh.cell (p:=⟨b,o+k * 8,none⟩) hb).trans (hce 0 _ rfl);have f1:wr.cell? ⟨b,o+k * 8+1,none⟩=some (.string xs):=(gh.cell (p:=⟨b,o+k * 8+1,none⟩) hb).trans (hce 1 _ rfl);have f2:wr.cell? ⟨b,o+k * 8+2,none⟩=some (.int .i64 xty):=(gh.cell (p:=⟨b,o+k * 8+2,none⟩) hb).trans (hce 2 _ rfl);have f3:wr.cell? ⟨b,o+k * 8+3,none⟩=some (.int .i64 xlf):=(gh.cell (p:=⟨b,o+k * 8+3,none⟩) hb).trans (hce 3 _ rfl);have f4:wr.cell? ⟨b,o+k * 8+4,none⟩=some (.slice dA dn dc):=(gh.cell (p:=⟨b,o+k * 8+4,none⟩) hb).trans (hce 4 _ rfl);have f5:wr.cell? ⟨b,o+k * 8+5,none⟩=some (.slice gA gn gc):=(gh.cell (p:=⟨b,o+k * 8+5,none⟩) hb).trans (hce 5 _ rfl);have f6:wr.cell? ⟨b,o+k * 8+6,none⟩=some (.slice fA fn fc):=(gh.cell (p:=⟨b,o+k * 8+6,none⟩) hb).trans (hce 6 _ rfl);have f7:wr.cell? ⟨b,o+k * 8+7,none⟩=some (.slice pA pn pc):=(gh.cell (p:=⟨b,o+k * 8+7,none⟩) hb).trans (hce 7 _ rfl);have qh:=jq ac;clear hce ac;have bV:(0:Int)<=(k:Int):=by omega
   have bT:(k:Int)<(n:Int):=by omega
   obtain⟨w2,aj⟩:=aCQ (wr.alloc (.cells #[.string xz,.string xs,.int .i64 xty,.int .i64 xlf,.slice dA dn dc,.slice gA gn gc,.slice fA fn fc,.slice pA pn pc] 57));have aK:w2.heap.size=wr.heap.size+1:=by rw[<-aj];simp
   have ae:Below wr.heap.size wr w2:=by rw[<-aj];exact (vQ _ _).alloc (bQ _) _
   have jc:=jq (jB _ _ rfl aj);have p0:=jc.out 0 _ rfl;have p1:=jc.out 1 _ rfl;have p2:=jc.out 2 _ rfl;have p3:=jc.out 3 _ rfl;have p4:=jc.out 4 _ rfl;have p5:=jc.out 5 _ rfl;have p6:=jc.out 6 _ rfl;have p7:=jc.out 7 _ rfl;have wg:eB Dr w w2:=gh.of_below ae;have qT:=(wg.cell (p:=⟨Tb,0,none⟩) hT).trans KT.out;have ai:=jq ae;have eV:=jq wg;clear gh ae wg;gi_wp2_with fail;refine⟨trivial,rfl,?_⟩;refine (callsIn_wide.2 (VO _ cc.spans t w2 (HP.out _ FH.out w2 eV.out))).mono ?_;rw[Sm.out ((⟨xz,xs,xty,xlf,dA,dn,dc,gA,gn,gc,fA,fn,fc,pA,pn,pc⟩:HC),cc)];rintro e w3 ⟨rfl,al⟩;have bg:=jq (jc.out.keep al (by omega));replace p0:=bg.out 0 _ rfl;replace p1:=bg.out 1 _ rfl;replace p2:=bg.out 2 _ rfl;replace p3:=bg.out 3 _ rfl;replace p4:=bg.out 4 _ rfl;replace p5:=bg.out 5 _ rfl;replace p6:=bg.out 6 _ rfl;replace p7:=bg.out 7 _ rfl;have eF:=al.size;have rv:Below wr.heap.size wr w3:=ai.out.trans (al.aDQ);have vw:=hJ _ _ _ _ hj (ItStep.of_below rv);have am:=jq (bC.out.of_below rv);have HT:=jq (Qx (p:=p) qh.out);clear aj al hj qT
   cases br:p (⟨xz,xs,xty,xlf,dA,dn,dc,gA,gn,gc,fA,fn,fc,pA,pn,pc⟩,cc) with
   | false=>
    have HX:=jq br;clear br rv;gi_wp2_with fail;refine⟨λ_ _=>trivial,?_⟩;gi_wp2_with fail;go_roundw
    case rel=>exact⟨k+1,S1,by omega,by go_num,by rw[HT.out,HX.out];exact vw,λk e=>by have:=eh k e;omega,bj,am,by omega⟩
    case measure=>simp[intOf] <;> omega
   | true=>
    have HX:=jq br;have ga:(L.take k).filter p ++ [(⟨xz,xs,xty,xlf,dA,dn,dc,gA,gn,gc,fA,fn,fc,pA,pn,pc⟩,cc)] <+: L.filter p:=by
     have h1:=HT.out;rw[HX.out,Qb rfl] at h1;rw[<-h1];exact Qy p L (k+1)
    obtain⟨fn',tmps,assign,body,hy,hR⟩:=hY ((L.take k).filter p) (⟨xz,xs,xty,xlf,dA,dn,dc,gA,gn,gc,fA,fn,fc,pA,pn,pc⟩,cc) S1 w3 ga vw (λk e=>by have:=eh k e;omega) (by omega);have mH:Sem.run prog (Instr.yield l #[.agg #[.string xz,.string xs,.int .i64 xty,.int .i64 xlf,.slice dA dn dc,.slice gA gn gc,.slice fA fn fc,.slice pA pn pc]]) w3 = .ok (.round l fn' tmps assign body) w3:=hy;have zj:=jq ga;clear hy ga br rv;gi_wp2_with fail;refine⟨rfl,hR.mono ?_⟩;rintro e w4 ⟨S4,aI,BC,Ip,(⟨rfl,G1⟩ | ⟨rfl,G2⟩)⟩
    ·have aP:Hid (eB Dr w w4):=jq (am.out.round aI (λk e hd=>by
      rcases bj k e with e | e
      ·exact hS k e hd
      ·have:=(HW.out.2 k hd).1;omega))
     have fd:=aI.size;clear aI mH hR;gi_wp2_with fail;go_roundw
     case rel=>
      refine⟨k+1,S4,by omega,by go_num,by rw[HT.out,HX.out];exact G1,Ip,λk e=>?_,aP,by omega⟩;rcases BC k e with e | e
      ·exact bj k e
      ·right;omega
     case measure=>simp[intOf] <;> omega
    ·have fd:=aI.size;clear aI mH hR;gi_wp2_with fail;refine bodyPost_ret (results_none rfl _ _ _) rfl ?_;refine⟨⟨_,rfl⟩,.inr ⟨_,S4,zj.out,G2,λk e=>?_⟩⟩;rcases BC k e with e | e
     ·exact bj k e
     ·right;omega
  ·have bZ:Hid (L.take k=L):=jq (kQ (by rw[lB.out];omega));rw[bZ.out] at hj;gi_wp2_with fail;go_end0;exact⟨⟨_,rfl⟩,.inl ⟨S1,hj,bj⟩⟩
end
end Go.Proofs.YtfnopgdcaanaiaaGreatDoor
