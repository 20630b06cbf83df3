/- Parts of the proof. No condition. -/
import Derived.Test.YtfnopgdcaanaiaaGreatDoorM21
set_option linter.all false
set_option maxRecDepth 100000
set_option maxHeartbeats 8000000
namespace Go.Proofs.YtfnopgdcaanaiaaGreatDoor
open Go.Proofs.Tryz
section
open Go.RowKit

end
section
open Go.RowKit Go.Shelf
attribute [local go_sem] Oper.semAt_some
structure HC where
 z:ByteArray
 s:ByteArray
 ty:Int
 lf:Int
 dA:Option Addr
 dn:Nat
 dc:Nat
 gA:Option Addr
 gn:Nat
 gc:Nat
 fA:Option Addr
 fn:Nat
 fc:Nat
 pA:Option Addr
 pn:Nat
 pc:Nat
def HC.cells(x:HC):Array Value:=#[.string x.z,.string x.s,.int .i64 x.ty,.int .i64 x.lf,.slice x.dA x.dn x.dc,.slice x.gA x.gn x.gc,.slice x.fA x.fn x.fc,.slice x.pA x.pn x.pc]
structure vu(w:World)(B:Nat)(x:HC)(h:Np.Held):Prop where
 zone:x.z.data.toList=h.zone
 name:x.s.data.toList=h.signed.set.name
 short:x.s.size<=140737488355328
 type:x.ty=h.signed.set.type
 life:x.lf=h.signed.set.life
 data:SlR bR 3 w B (.slice x.dA x.dn x.dc) h.signed.set.data
 sigs:SlR cS 6 w B (.slice x.gA x.gn x.gc) h.signed.sigs
 spans:SlR cT 2 w B (.slice x.pA x.pn x.pc) h.spans
theorem vu.keep{w w':World}{B:Nat}{x:HC}{h:Np.Held}(k:vu w B x h)(hb:Below B w w'):vu w' B x h:=⟨k.zone,k.name,k.short,k.type,k.life,k.data.keep bV hb,k.sigs.keep cg hb,k.spans.keep eE hb⟩
theorem Px{w:World}{B n c:Nat}{A:Option Addr}{xs:List Np.Held}(h:SlR db 8 w B (.slice A n c) xs){k:Nat}{x:Np.Held}(hx:xs[k]?=some x):∃ (b o:Nat) (z s:ByteArray) (dv sv fv pv:Value),A=some ⟨b,o,none⟩/\b<B/\z.data.toList=x.zone/\s.data.toList=x.signed.set.name/\s.size<=140737488355328/\
 SlR bR 3 w B dv x.signed.set.data/\SlR cS 6 w B sv x.signed.sigs/\SlR cT 2 w B fv x.fresh/\SlR cT 2 w B pv x.spans/\
 eh w b (o+k * 8) [.string z,.string s,.int .i64 x.signed.set.type,.int .i64 x.signed.set.life,dv,sv,fv,pv]:=by
 obtain⟨A',c',hA',_,_,bU⟩:=h
 cases hA'
 obtain⟨b,o,e,hA,bB,hlen,hce,z,s,dv,sv,fv,pv,he,h1,_,h3,h4,h5,h6,h7,h8⟩:=bU k _ hx;subst he;exact⟨b,o,z,s,dv,sv,fv,pv,hA,bB,h1,h3,h4,h5,h6,h7,h8,hce⟩
theorem Pp{w:World}{B n c:Nat}{A:Option Addr}{xs:List Np.Held}(h:SlR db 8 w B (.slice A n c) xs):∃ L:List (HC×Np.Held),L.map (·.2)=xs/\L.length=n/\∀ i x,L[i]?=some x->vu w B x.1 x.2/\∃ b o,A=some ⟨b,o,none⟩/\b<B/\eh w b (o+i * 8) x.1.cells.toList:=by
 have hn:n=xs.length:=by
  obtain⟨A',c',hA,_,_,_⟩:=h;simp only[Value.slice.injEq] at hA;exact hA.2.1
 have bX:∀ k,k<=xs.length->∃ L:List (HC×Np.Held),L.map (·.2)=xs.take k/\∀ i x,L[i]?=some x->vu w B x.1 x.2/\∃ b o,A=some ⟨b,o,none⟩/\b<B/\eh w b (o+i * 8) x.1.cells.toList:=by
  intro k
  induction k with
  | zero=>exact λ_=>⟨[],by simp,λi x hx=>by simp at hx⟩
  | succ k ih=>
   intro hk;obtain⟨L,h1,h2⟩:=ih (by omega);have hlen:L.length=k:=by have:=Qd List.length h1;simp at this;omega
   obtain⟨b,o,z,s,dv,sv,fv,pv,hA,hb,hz,hs,eW,aK,aS,jg,jj,hce⟩:=Px h (aQ (by omega:k<xs.length));obtain⟨d1,d2,rfl,_⟩:=ak aK;obtain⟨g1,g2,rfl,_⟩:=ak aS;obtain⟨t1,t2,rfl,_⟩:=ak jg;obtain⟨p1,p2,rfl,_⟩:=ak jj;refine⟨L ++ [(⟨z,s,xs[k].signed.set.type,xs[k].signed.set.life,d1,xs[k].signed.set.data.length,d2,g1,xs[k].signed.sigs.length,g2,t1,xs[k].fresh.length,t2,p1,xs[k].spans.length,p2⟩,xs[k])],by rw[List.map_append,h1,fQ (by omega)];rfl,λi x hx=>?_⟩;rcases Nat.lt_or_ge i L.length with ab | nP
   ·rw[List.getElem?_append_left ab] at hx;exact h2 i x hx
   ·rw[oQ nP] at hx;have h0:i - L.length=0:=by have:=(cQ.1 hx).1;simp at this;omega
    rw[h0] at hx;simp at hx;subst hx;obtain rfl:i=k:=by omega
    exact⟨⟨hz,hs,eW,rfl,rfl,aK,aS,jj⟩,b,o,hA,hb,hce⟩
 obtain⟨L,h1,h2⟩:=bX xs.length (bQ _);rw[List.take_length] at h1;exact⟨L,h1,by rw[hn,<-h1,List.length_map],h2⟩
theorem O9(v:Value)(A:Option Addr)(n c:Nat)(hv:v = .slice A n c)(t:Int)(w:World) :
 Calls prog 58 #[v,.int .i64 t] w λe w'=>e = .returned (.func (.func 127) #[] #[.pointer (some ⟨w.heap.size,0,none⟩),.pointer (some ⟨w.heap.size+1,0,none⟩)])/\w'=(w.alloc (.cells #[v] 52)).alloc (.cells #[.int .i64 t] 3):=by
 subst hv;go_enter func58,ntmps58;go_wp2_with fail;go_ret;exact⟨rfl,rfl⟩
theorem Ox:∀ args w,(callFunc 127 args).run prog w = .ok (.enter 127 args) w:=enters_of func127 (by kernel_rfl) rfl
theorem Pa(L:List (HC×Np.Held))(t:Int)(X Tb n c:Nat)(Dr:Nat->Prop)(A:Option Addr)(w:World)(hX:Dr X)(hT:Dr Tb)(kX:w.cell? ⟨X,0,none⟩=some (.slice A n c))(kT:w.cell? ⟨Tb,0,none⟩=some (.int .i64 t))(BJ:L.length=n)(EY:n<=20000)
 (hL:∀ i x,L[i]?=some x->∃ b o,A=some ⟨b,o,none⟩/\Dr b/\eh w b (o+i * 8) x.1.cells.toList)
 (hp:∀ x∈L,∀ W,fe Dr w W->SlR cT 2 W W.heap.size (.slice x.1.pA x.1.pn x.1.pc) x.2.spans) :
 Bi prog 127 (λy=>#[y,.pointer (some ⟨X,0,none⟩),.pointer (some ⟨Tb,0,none⟩)]) (λx:HC×Np.Held=>#[.agg x.1.cells]) (L.filter λx=>Np.uX x.2.spans t) Dr w:=by
 intro l J Jx S W hW hJ Es hY hS hS' h0;have k1:=(hW.cell (p:=⟨X,0,none⟩) hX).trans kX;have HW:=jq hW;have HL:=jq hL;have HP:=jq hp;have jm:=jq BJ;have KT:=jq kT;have sD:=hW.1;obtain⟨p,J9⟩:∃ p:HC×Np.Held->Bool,(λx=>Np.uX x.2.spans t)=p:=⟨_,rfl⟩;have UG:=jq (λx:HC×Np.Held=>congrFun J9 x);rw[J9] at hY |-;clear hW hL hp kX BJ kT J9;refine callsIn_of_wp func127 rfl trivial ?_ rfl;simp only[ntmps127,List.size_toArray,List.length_cons,List.length_nil,Nat.reduceAdd,Nat.reduceSub,Array.replicate_succ,Array.replicate_zero,List.push_toArray,List.append_toArray,List.nil_append,List.cons_append];gi_wp2_with fail;gi_loopw [8] (λi wr=>∃ (k:Nat) (S1:Nat->Prop),k<=n/\i = .int .i64 k/\J ((L.take k).filter p) S1 wr/\(∀ k,S1 k->k<wr.heap.size)/\(∀ k,S1 k->S k\/W.heap.size<=k)/\Hid (fe Dr w wr)/\W.heap.size<=wr.heap.size) (λi _=>n - (intOf i).toNat)
 case atStart=>exact⟨0,S,jQ _,rfl,by simpa using h0,hS',λ_ e=>.inl e,HW,bQ _⟩
 case round=>
  obtain⟨k,S1,hk,rfl,hj,eO,bE,bG,an⟩:=hrel;by_cases ab:k<n
  ·obtain⟨x,aa⟩:∃ x,L[k]?=some x:=⟨_,aQ (by rw[jm.out];exact ab)⟩;obtain⟨b,o,rfl,hb,hce⟩:=HL.out k x aa;have gK:fe Dr w wr:=bG.out;have Hb:=jq (gQ aa);obtain⟨⟨xz,xs,xty,xlf,dA,dn,dc,gA,gn,gc,fA,fn,fc,pA,pn,pc⟩,cc⟩:=x;have f0:wr.cell? ⟨b,o+k * 8,none⟩=some (.string xz):=(gK.cell (p:=⟨b,o+k * 8,none⟩) hb).trans (hce 0 _ rfl);have f1:wr.cell? ⟨b,o+k * 8+1,none⟩=some (.string xs):=(gK.cell (p:=⟨b,o+k * 8+1,none⟩) hb).trans (hce 1 _ rfl);have f2:wr.cell? ⟨b,o+k * 8+2,none⟩=some (.int .i64 xty):=(gK.cell (p:=⟨b,o+k * 8+2,none⟩) hb).trans (hce 2 _ rfl);have f3:wr.cell? ⟨b,o+k * 8+3,none⟩=some (.int .i64 xlf):=(gK.cell (p:=⟨b,o+k * 8+3,none⟩) hb).trans (hce 3 _ rfl);have f4:wr.cell? ⟨b,o+k * 8+4,none⟩=some (.slice dA dn dc):=(gK.cell (p:=⟨b,o+k * 8+4,none⟩) hb).trans (hce 4 _ rfl);have f5:wr.cell? ⟨b,o+k * 8+5,none⟩=some (.slice gA gn gc):=(gK.cell (p:=⟨b,o+k * 8+5,none⟩) hb).trans (hce 5 _ rfl);have f6:wr.cell? ⟨b,o+k * 8+6,none⟩=some (.slice fA fn fc):=(gK.cell (p:=⟨b,o+k * 8+6,none⟩) hb).trans (hce 6 _ rfl);have f7:wr.cell? ⟨b,o+k * 8+7,none⟩=some (.slice pA pn pc):=(gK.cell (p:=⟨b,o+k * 8+7,none⟩) hb).trans (hce 7 _ rfl);have lW:=jq aa;clear hce aa;have bJ:(0:Int)<=(k:Int):=by omega
   have bI:(k:Int)<(n:Int):=by omega
   obtain⟨w2,aj⟩:=acJ (wr.alloc (.cells #[.string xz,.string xs,.int .i64 xty,.int .i64 xlf,.slice dA dn dc,.slice gA gn gc,.slice fA fn fc,.slice pA pn pc] 57));have aN:w2.heap.size=wr.heap.size+1:=by rw[<-aj];simp
   have ac:Below wr.heap.size wr w2:=by rw[<-aj];exact (vQ _ _).alloc (bQ _) _
   have iU:=jq (iq _ _ rfl aj);have p0:=iU.out 0 _ rfl;have p1:=iU.out 1 _ rfl;have p2:=iU.out 2 _ rfl;have p3:=iU.out 3 _ rfl;have p4:=iU.out 4 _ rfl;have p5:=iU.out 5 _ rfl;have p6:=iU.out 6 _ rfl;have p7:=iU.out 7 _ rfl;have xM:fe Dr w w2:=gK.of_below ac;have qT:=(xM.cell (p:=⟨Tb,0,none⟩) hT).trans KT.out;have ai:=jq ac;have fG:=jq xM;clear gK ac xM;gi_wp2_with fail;refine⟨trivial,rfl,?_⟩;refine (callsIn_wide.2 (Yj _ cc.spans t w2 (HP.out _ Hb.out w2 fG.out))).mono ?_;rw[UG.out ((⟨xz,xs,xty,xlf,dA,dn,dc,gA,gn,gc,fA,fn,fc,pA,pn,pc⟩:HC),cc)];rintro e w3 ⟨rfl,aq⟩;have bi:=jq (iU.out.keep aq (by omega));replace p0:=bi.out 0 _ rfl;replace p1:=bi.out 1 _ rfl;replace p2:=bi.out 2 _ rfl;replace p3:=bi.out 3 _ rfl;replace p4:=bi.out 4 _ rfl;replace p5:=bi.out 5 _ rfl;replace p6:=bi.out 6 _ rfl;replace p7:=bi.out 7 _ rfl;have eR:=aq.size;have sG:Below wr.heap.size wr w3:=ai.out.trans (aq.adZ);have wV:=hJ _ _ _ _ hj (ItStep.of_below sG);have ar:=jq (bG.out.of_below sG);have HT:=jq (SG (p:=p) lW.out);clear aj aq hj qT
   cases ba:p (⟨xz,xs,xty,xlf,dA,dn,dc,gA,gn,gc,fA,fn,fc,pA,pn,pc⟩,cc) with
   | false=>
    have HX:=jq ba;clear ba sG;gi_wp2_with fail;refine⟨λ_ _=>trivial,?_⟩;gi_wp2_with fail;go_roundw
    case rel=>exact⟨k+1,S1,by omega,by go_num,by rw[HT.out,HX.out];exact wV,λk e=>by have:=eO k e;omega,bE,ar,by omega⟩
    case measure=>simp[intOf] <;> omega
   | true=>
    have HX:=jq ba;have gI:(L.take k).filter p ++ [(⟨xz,xs,xty,xlf,dA,dn,dc,gA,gn,gc,fA,fn,fc,pA,pn,pc⟩,cc)] <+: L.filter p:=by
     have h1:=HT.out;rw[HX.out,Qb rfl] at h1;rw[<-h1];exact SH p L (k+1)
    obtain⟨fn',tmps,assign,body,hy,hR⟩:=hY ((L.take k).filter p) (⟨xz,xs,xty,xlf,dA,dn,dc,gA,gn,gc,fA,fn,fc,pA,pn,pc⟩,cc) S1 w3 gI wV (λk e=>by have:=eO k e;omega) (by omega);have mP:Sem.run prog (Instr.yield l #[.agg #[.string xz,.string xs,.int .i64 xty,.int .i64 xlf,.slice dA dn dc,.slice gA gn gc,.slice fA fn fc,.slice pA pn pc]]) w3 = .ok (.round l fn' tmps assign body) w3:=hy;have AL:=jq gI;clear hy gI ba sG;gi_wp2_with fail;refine⟨rfl,hR.mono ?_⟩;rintro e w4 ⟨S4,aM,CI,J2,(⟨rfl,Jc⟩ | ⟨rfl,Jd⟩)⟩
    ·have aU:Hid (fe Dr w w4):=jq (ar.out.round aM (λk e hd=>by
      rcases bE k e with e | e
      ·exact hS k e hd
      ·have:=(HW.out.2 k hd).1;omega))
     have fl:=aM.size;clear aM mP hR;gi_wp2_with fail;go_roundw
     case rel=>
      refine⟨k+1,S4,by omega,by go_num,by rw[HT.out,HX.out];exact Jc,J2,λk e=>?_,aU,by omega⟩;rcases CI k e with e | e
      ·exact bE k e
      ·right;omega
     case measure=>simp[intOf] <;> omega
    ·have fl:=aM.size;clear aM mP hR;gi_wp2_with fail;refine bodyPost_ret (results_none rfl _ _ _) rfl ?_;refine⟨⟨_,rfl⟩,.inr ⟨_,S4,AL.out,Jd,λk e=>?_⟩⟩;rcases CI k e with e | e
     ·exact bE k e
     ·right;omega
  ·have f9:Hid (L.take k=L):=jq (kQ (by rw[jm.out];omega));rw[f9.out] at hj;gi_wp2_with fail;go_end0;exact⟨⟨_,rfl⟩,.inl ⟨S1,hj,bE⟩⟩
end
section
open Go.RowKit Go.Shelf
theorem aFJ(e:List Value)(h:Np.Hist)(hf:Np.yf h)(w:World)(hh:gC w w.heap.size e h) :
 Calls prog 143 #[.agg e.toArray] w λe w'=>((Np.VHist h/\∃ v',e = .returned (.tuple #[v',.int .i64 0])/\cF w.heap.size w' v' (Np.apexes h.copies))\/(¬ Np.VHist h/\e = .returned (.tuple #[.slice none 0 0,.int .i64 1])))/\Below w.heap.size w w':=by
 obtain⟨hv,cv,s,dv,dU,rfl,h1,h2,h3,h4,h5,h6⟩:=hh;obtain⟨hosts,copies,⟨name,ty,life,data⟩,hints,drift,stop⟩:=h;dsimp only at h1 h3 h4 h5 h6;subst h1;have H3:=jq h3;have H4:=jq h4;have H5:=jq h5;have H6:=jq h6;have pG:=jq hf;obtain⟨A1,c1,rfl,_,_⟩:=ak h3;obtain⟨A2,c2,rfl,_,_⟩:=ak h4;obtain⟨A3,c3,rfl,_,_⟩:=ak h5;obtain⟨A4,c4,rfl,_,_⟩:=ak h6;clear h3 h4 h5 h6 hf;obtain⟨r,hr⟩:=acJ (Np.yes (Np.VHist ⟨hosts,copies,⟨s.data.toList,ty,life,data⟩,hints,drift,stop⟩));have pU:=jq hr;obtain⟨n1,bP⟩:=acJ hosts.length;obtain⟨n2,cr⟩:=acJ copies.length;obtain⟨n3,eu⟩:=acJ data.length;obtain⟨n4,eP⟩:=acJ hints.length;rw[bP] at H3 |-;rw[cr] at H4 |-;rw[eu] at H5 |-;rw[eP] at H6 |-;clear hr bP cr eu eP;obtain⟨X,hX⟩:=acJ w.heap.size;have kN:=jq hX;obtain⟨W1,am⟩:=acJ (w.alloc (.cells #[.slice A1 n1 c1,.slice A2 n2 c2,.string s,.int .i64 ty,.int .i64 life,.slice A3 n3 c3,.slice A4 n4 c4,.int .i64 drift,.int .i64 stop] 29));have aI:Below w.heap.size w W1:=by rw[<-am];exact (vQ _ _).alloc (bQ _) _
 have iS:W1.heap.size=w.heap.size+1:=by rw[<-am];simp
 have k0:W1.cell? ⟨X,0,none⟩=some (.slice A1 n1 c1):=by rw[<-am,<-hX];simp[go_sem]
 have k1:W1.cell? ⟨X,1,none⟩=some (.slice A2 n2 c2):=by rw[<-am,<-hX];simp[go_sem]
 have k2:W1.cell? ⟨X,2,none⟩=some (.string s):=by rw[<-am,<-hX];simp[go_sem]
 have k3:W1.cell? ⟨X,3,none⟩=some (.int .i64 ty):=by rw[<-am,<-hX];simp[go_sem]
 have k4:W1.cell? ⟨X,4,none⟩=some (.int .i64 life):=by rw[<-am,<-hX];simp[go_sem]
 have k5:W1.cell? ⟨X,5,none⟩=some (.slice A3 n3 c3):=by rw[<-am,<-hX];simp[go_sem]
 have k6:W1.cell? ⟨X,6,none⟩=some (.slice A4 n4 c4):=by rw[<-am,<-hX];simp[go_sem]
 have k7:W1.cell? ⟨X,7,none⟩=some (.int .i64 drift):=by rw[<-am,<-hX];simp[go_sem]
 have k8:W1.cell? ⟨X,8,none⟩=some (.int .i64 stop):=by rw[<-am,<-hX];simp[go_sem]
 rw[hX] at aI iS H3 H4 H5 H6 |-;have aV:=jq aI;clear aI;go_enter func143,ntmps143;go_wp2_with fail;refine (RY _ hosts _ copies s h2 ty life _ data _ hints drift stop pG.out.1 pG.out.2 _ ((H3.out.keep oh aV.out).more x7 (by omega)) ((H4.out.keep mp aV.out).more xX (by omega)) ((H5.out.keep bV aV.out).more cu (by omega)) ((H6.out.keep qy aV.out).more x8 (by omega))).mono ?_;rintro e w2 ⟨rfl,ac⟩;have aN:=ac.size;have m1:w2.cell? ⟨X,1,none⟩=some (.slice A2 n2 c2):=aaJ ac k1;have ai:=acZ aV ac;clear ac am k0 k1 k2 k3 k4 k5 k6 k7 k8 hX;rw[pU.out]
 cases r with
 | false=>
  have HN:Hid (¬ Np.VHist ⟨hosts,copies,⟨s.data.toList,ty,life,data⟩,hints,drift,stop⟩):=jq (λh=>by have:=Np.bh h;rw[pU.out] at this;cases this);go_wp2_with fail;go_ret2;exact⟨.inr ⟨HN.out,rfl⟩,ai.out⟩
 | true=>
  have HV:Hid (Np.VHist ⟨hosts,copies,⟨s.data.toList,ty,life,data⟩,hints,drift,stop⟩):=jq (Np.fq.1 pU.out);have qM:Hid (copies.length<=500):=jq pG.out.1;go_wp2_with fail;refine (RV _ copies (by have:=qM.out;omega) (λc hc=>yQ (rP (NO HV.out c.zone.apex (Np.th.2 (List.mem_map.2 ⟨c,hc,rfl⟩)))) (by omega)) _ ((H4.out.keep mp ai.out).more xX (by omega))).mono ?_;rintro e w3 ⟨v3,rfl,mM,aq⟩;have H4':=jq (And.intro (cF.weak mM (show X<=w2.heap.size by omega)) (ai.out.trans (aq.adZ)));clear mM aq;go_wp2_with fail;go_ret2;exact⟨.inl ⟨HV.out,_,rfl,H4'.out.1⟩,H4'.out.2⟩
end
end Go.Proofs.YtfnopgdcaanaiaaGreatDoor
