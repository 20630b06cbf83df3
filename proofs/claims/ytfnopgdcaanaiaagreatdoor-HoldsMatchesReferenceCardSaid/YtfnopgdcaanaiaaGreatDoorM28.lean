/- Parts of the proof. No condition. -/
import Derived.Test.YtfnopgdcaanaiaaGreatDoorM22
import Derived.Test.YtfnopgdcaanaiaaGreatDoorM24
import Derived.Test.YtfnopgdcaanaiaaGreatDoorM25
import Derived.Test.YtfnopgdcaanaiaaGreatDoorM26
import Derived.Test.YtfnopgdcaanaiaaGreatDoorM27
set_option linter.all false
set_option maxRecDepth 100000
set_option maxHeartbeats 8000000
namespace Go.Proofs.YtfnopgdcaanaiaaGreatDoor
open Go.Proofs.Tryz
section
open Go.RowKit Go.Shelf Go.MapKept
attribute [local go_sem] Oper.semAt_some CV.cells
def zI(z:ByteArray):Value->Value
 | .agg xs=>.agg (#[.string z]++xs ++ #[.slice none 0 0,.slice none 0 0])
 | _=>undef
def C0:Value->Value
 | .tuple xs=>xs.getD 0 undef
 | _=>undef
def FE:Value->Value
 | .tuple xs=>xs.getD 1 undef
 | _=>undef
def gO(g n cap q:Nat)(fA:Option Addr)(fn fc cb:Nat)(xf xt:Int)(e12:Value)(e13:Value)(i:Nat):Value:=[.slice (some ⟨g,0,none⟩) n cap,.int .i64 (q:Nat),.slice (some ⟨g,0,none⟩) n cap,.int .i64 (q:Nat),.pointer (some ⟨g,q * 8,none⟩),.pointer (some ⟨g,q * 8+6,none⟩),.slice fA fn fc,.pointer (some ⟨cb,1,none⟩),.int .i64 xf,.pointer (some ⟨cb,2,none⟩),.int .i64 xt,.agg #[.int .i64 xf,.int .i64 xt],e12,e13,.pointer (some ⟨g,q * 8,none⟩),.pointer (some ⟨g,q * 8+6,none⟩),undef].getD i undef
def jX(i:Nat):Nat:=[62,63,64,65,66,67,68,69,70,71,72,73,74,75,76,77,0].getD i 0
def auJ:List Nat:=[0,1,2,3,4,5,6,7,8,9,10,11,14,15,12,13].map jX
theorem pq:∀ i∈[0,1,2,3,4,5,6,7,8,9,10,11,14,15,12,13],jX i<101/\jX i∈auJ:=by decide
theorem rJ:∀ i∈[0,1,2,3,4,5,6,7,8,9,10,11,14,15,12,13],∀ j∈[0,1,2,3,4,5,6,7,8,9,10,11,14,15,12,13],j≠i->jX i≠jX j:=by decide
def ll(oA:Option Addr)(m oc:Nat)(z ss:ByteArray)(sty slf:Int)(dA:Option Addr)(dn dc:Nat)(gA:Option Addr)(gn gc:Nat)(e3:Value)(e5:Value)(e6:Value)(i:Nat):Value:=[.slice oA m oc,.string z,.agg #[.string ss,.int .i64 sty,.int .i64 slf,.slice dA dn dc,.slice gA gn gc],e3,zI z e3,e5,e6,undef].getD i undef
def mW(i:Nat):Nat:=[52,53,54,55,56,57,58,0].getD i 0
def auQ:List Nat:=[0,1,2,4,3,5,6].map mW
theorem uU:∀ i∈[0,1,2,4,3,5,6],mW i<101/\mW i∈auQ:=by decide
theorem xV:∀ i∈[0,1,2,4,3,5,6],∀ j∈[0,1,2,4,3,5,6],j≠i->mW i≠mW j:=by decide
def pt(g n cap q:Nat)(fA:Option Addr)(fn fc:Nat)(e7:Value)(i:Nat):Value:=[.slice (some ⟨g,0,none⟩) n cap,.int .i64 (q:Nat),.slice (some ⟨g,0,none⟩) n cap,.int .i64 (q:Nat),.pointer (some ⟨g,q * 8,none⟩),.pointer (some ⟨g,q * 8+6,none⟩),.slice fA fn fc,e7,e7,C0 e7,FE e7,.pointer (some ⟨g,q * 8,none⟩),.pointer (some ⟨g,q * 8+6,none⟩),undef].getD i undef
def pr(i:Nat):Nat:=[87,88,89,90,91,92,93,94,86,95,96,97,98,0].getD i 0
def auK:List Nat:=[0,1,2,3,4,5,6,8,9,10,11,12,7].map pr
theorem FC:∀ i∈[0,1,2,3,4,5,6,8,9,10,11,12,7],pr i<101/\pr i∈auK:=by decide
theorem FD:∀ i∈[0,1,2,3,4,5,6,8,9,10,11,12,7],∀ j∈[0,1,2,3,4,5,6,8,9,10,11,12,7],j≠i->pr i≠pr j:=by decide
def psP(PP:List (Np.Span×Np.Signed))(sp:Np.Span)(sets:List Np.Signed)(j:Nat):List (Np.Span×Np.Signed):=PP++(sets.take j).map λs=>(sp,s)
theorem atY(PP:List (Np.Span×Np.Signed))(sp:Np.Span)(sets:List Np.Signed):psP PP sp sets 0=PP:=by simp[psP]
theorem atZ{PP:List (Np.Span×Np.Signed)}{sp:Np.Span}{sets:List Np.Signed}{j:Nat}(h:sets.length=j):psP PP sp sets j=PP++sets.map λs=>(sp,s):=by unfold psP;rw[kQ (by omega)]
theorem atX{PP:List (Np.Span×Np.Signed)}{sp:Np.Span}{sets:List Np.Signed}{j:Nat}{x:Np.Signed}(h:sets[j]?=some x):psP PP sp sets (j+1)=psP PP sp sets j ++ [(sp,x)]:=by
 obtain⟨hl,he⟩:=cQ.1 h;unfold psP;rw[fQ hl,he,List.map_append,List.append_assoc];rfl
theorem atK{PP:List (Np.Span×Np.Signed)}{sp:Np.Span}{sets:List Np.Signed}{j:Nat}{p:Np.Span×Np.Signed}(h:p∈psP PP sp sets j):p∈PP++sets.map λs=>(sp,s):=by
 rcases List.mem_append.1 h with h | h
 ·exact List.mem_append.2 (.inl h)
 ·obtain⟨s,hs,rfl⟩:=List.mem_map.1 h;exact List.mem_append.2 (.inr (List.mem_map.2 ⟨s,List.mem_of_mem_take hs,rfl⟩))
theorem atJ(PP:List (Np.Span×Np.Signed))(sp:Np.Span)(sets:List Np.Signed)(j:Nat):(psP PP sp sets j).length<=(PP++sets.map λs=>(sp,s)).length:=by
 unfold psP;simp only[List.length_append,List.length_map,List.length_take];omega
theorem asK{a b:List (CV×Np.Copy)}(h:a <+: b):∃ c,((b.map (·.2)).flatMap Np.oe)=((a.map (·.2)).flatMap Np.oe)++c:=by
 obtain⟨c,rfl⟩:=h;exact⟨(c.map (·.2)).flatMap Np.oe,by rw[List.map_append,List.flatMap_append]⟩
def DT(w6:World)(bo bt bm:Nat)(zn:ByteArray)(pre:List (CV×Np.Copy))(S:Nat->Prop)(W:World):Prop:=
 ∃ (xs:List PT) (ov:Value) (M:Nat->Prop),S bo/\S bt/\S bm/\(∀ k,tU xs ov k->S k)/\(∀ k,S k->k=bo\/k=bt\/k=bm\/w6.heap.size<=k)/\(∀ k,¬ S k->M k)/\M bo/\M bt/\M bm/\
   Boxed W bo 52 ov/\Boxed W bt 4 (.bool (!pre.isEmpty))/\dG bm (Np.oa (xs.map (·.1))) W/\PubR w6.heap.size M zn xs ov W/\xs.map (λx=>(x.1,x.2.1))=Np.fC ((pre.map (·.2)).flatMap Np.oe)/\RdStep (λk=>k=bo\/k=bt\/k=bm) w6 W
theorem RG(w6:World)(bo bt bm:Nat)(zn:ByteArray):gp w6.heap.size (DT w6 bo bt bm zn):=by
 rintro pre S W W' ⟨xs,ov,M,h1,h2,h3,h4,h5,h6,m1,m2,m3,h7,h8,h9,yX,I4,ua⟩ aB;refine⟨xs,ov,M,h1,h2,h3,h4,h5,h6,m1,m2,m3,kU h7 aB h1,kU h8 aB h2,h9.stays (aB.keep bm h9.lt (.inr h3)),?_,I4,⟨aB.os.trans ua.os,aB.tape.trans ua.tape,aB.output.trans ua.output,yQ ua.size aB.size,λk hk nV=>(aB.keep k (lQ hk ua.size) (.inl hk)).trans (ua.keep k hk nV)⟩⟩;exact yX.leaves ⟨aB.os,aB.tape,aB.output,aB.size,λi hi hm=>⟨hm,aB.keep i hi (.inr (Classical.byContradiction λhs=>hm (h6 i hs)))⟩⟩ (λg hg=>⟨aB.keep g (yX.lt hg).2.1 (.inr (h4 g hg)),(yX.lt hg).2.2⟩)
theorem avQ{w6:World}{bo bt bm:Nat}{zn:ByteArray}{pre:List (CV×Np.Copy)}{S:Nat->Prop}{W W':World}(h:DT w6 bo bt bm zn pre S W)(hb:Below W.heap.size W W'):DT w6 bo bt bm zn pre S W':=by
 obtain⟨xs,ov,M,h1,h2,h3,h4,h5,h6,m1,m2,m3,h7,h8,h9,yX,I4,ua⟩:=h;exact⟨xs,ov,M,h1,h2,h3,h4,h5,h6,m1,m2,m3,cU h7 hb h7.lt,cU h8 hb h8.lt,h9.keep hb h9.lt,yX.keep hb,I4,ua.then_below hb⟩
theorem Oe{w:World}{B:Nat}{L:List (CV×Np.Copy)}(h:∀ x∈L,CVOf w B x.1 x.2)(z:List UInt8):((L.filter λx=>x.1.str.data.toList == z).map (·.2)).flatMap Np.oe=Np.cX (L.map (·.2)) z:=by
 unfold Np.cX Np.tY;congr 1
 induction L with
 | nil=>rfl
 | cons x L ih=>
  have hx:=h x (by simp);have ih:=ih (λy hy=>h y (mQ _ hy));rw[List.map_cons,List.filter_cons,List.filter_cons,hx.apex];split
  ·rw[List.map_cons,ih]
  ·exact ih
theorem awZ(e:List Value)(h:Np.Hist)(hf:Np.yf h)(QB:Np.lG h)(z:ByteArray)(hz:z.size<=140737488355328)(hp:(Np.cX h.copies z.data.toList).length<=5000)(w:World)(hR:jo w w.heap.size)(hP:go w)(hh:gC w w.heap.size e h) :
 Calls prog 61 #[.agg e.toArray,.string z] w λe w'=>((¬ Np.vY h z.data.toList/\e = .returned (.tuple #[.slice none 0 0,.int .i64 1]))\/(Np.vY h z.data.toList/\((¬ Np.yL h z.data.toList/\e = .returned (.tuple #[.slice none 0 0,.int .i64 4]))\/(Np.yL h z.data.toList/\∃ v',e = .returned (.tuple #[v',.int .i64 0])/\il db 8 0 w.heap.size w' v' (Np.pub h.copies z.data.toList)))))/\Below w.heap.size w w':=by
 have Ib:=jq hh;obtain⟨hv,cv,s,dv,dU,rfl,bK,dW,h3,h4,h5,h6⟩:=hh;obtain⟨ty,dT⟩:=acJ h.anchor.type;obtain⟨life,J0⟩:=acJ h.anchor.life;obtain⟨drift,Ps⟩:=acJ h.drift;obtain⟨stop,mj⟩:=acJ h.stop;have H3:=jq h3;have H4:=jq h4;have H5:=jq h5;have H6:=jq h6;have HS:=jq (And.intro bK dW);have pG:=jq hf;have du:=jq mj;have f9:=jq (And.intro dT J0);obtain⟨A1,c1,rfl,_,_⟩:=ak h3;obtain⟨A2,c2,rfl,_,_⟩:=ak h4;obtain⟨A3,c3,rfl,_,_⟩:=ak h5;obtain⟨A4,c4,rfl,_,_⟩:=ak h6;clear h3 h4 h5 h6 bK dW hf;obtain⟨n1,bP⟩:=acJ h.hosts.length;obtain⟨n2,cr⟩:=acJ h.copies.length;obtain⟨n3,eu⟩:=acJ h.anchor.data.length;obtain⟨n4,eP⟩:=acJ h.hints.length;rw[bP] at H3;rw[cr] at H4;rw[eu] at H5;rw[eP] at H6;rw[bP,cr,eu,eP,dT,J0,Ps,mj] at Ib |-;have vN:=jq cr;clear bP cr eu eP dT J0 Ps mj;obtain⟨r,hr⟩:=acJ (Np.yes (Np.VHist h));have pU:=jq hr;clear hr;obtain⟨X,hX⟩:=acJ w.heap.size;obtain⟨W1,am⟩:=acJ ((((w.alloc (.cells #[.slice A1 n1 c1,.slice A2 n2 c2,.string s,.int .i64 ty,.int .i64 life,.slice A3 n3 c3,.slice A4 n4 c4,.int .i64 drift,.int .i64 stop] 29)).alloc (.cells #[.string z] 9)).alloc (.cells #[.slice none 0 0] 52)).alloc (.cells #[.int .i64 0] 37));have aI:Below w.heap.size w W1:=by rw[<-am];exact ((((vQ _ _).alloc (bQ _) _).alloc (by simp <;> omega) _).alloc (by simp <;> omega) _).alloc (by simp <;> omega) _
 have iS:W1.heap.size=X+4:=by rw[<-am,<-hX];simp
 have k0:W1.cell? ⟨X,0,none⟩=some (.slice A1 n1 c1):=by rw[<-am,<-hX];simp[go_sem]
 have k1:W1.cell? ⟨X,1,none⟩=some (.slice A2 n2 c2):=by rw[<-am,<-hX];simp[go_sem]
 have k2:W1.cell? ⟨X,2,none⟩=some (.string s):=by rw[<-am,<-hX];simp[go_sem]
 have k3:W1.cell? ⟨X,3,none⟩=some (.int .i64 ty):=by rw[<-am,<-hX];simp[go_sem]
 have k4:W1.cell? ⟨X,4,none⟩=some (.int .i64 life):=by rw[<-am,<-hX];simp[go_sem]
 have k5:W1.cell? ⟨X,5,none⟩=some (.slice A3 n3 c3):=by rw[<-am,<-hX];simp[go_sem]
 have k6:W1.cell? ⟨X,6,none⟩=some (.slice A4 n4 c4):=by rw[<-am,<-hX];simp[go_sem]
 have k7:W1.cell? ⟨X,7,none⟩=some (.int .i64 drift):=by rw[<-am,<-hX];simp[go_sem]
 have k8:W1.cell? ⟨X,8,none⟩=some (.int .i64 stop):=by rw[<-am,<-hX];simp[go_sem]
 have kz:W1.cell? ⟨X+1,0,none⟩=some (.string z):=by rw[<-am,<-hX];simp[go_sem]
 have HO:Hid (Boxed W1 (X+1+1) 52 (.slice none 0 0)):=jq (by
  rw[<-am,<-hX]
  have:=(Boxed.new ((w.alloc (.cells #[.slice A1 n1 c1,.slice A2 n2 c2,.string s,.int .i64 ty,.int .i64 life,.slice A3 n3 c3,.slice A4 n4 c4,.int .i64 drift,.int .i64 stop] 29)).alloc (.cells #[.string z] 9)) 52 (.slice none 0 0)).alloc (.cells #[.int .i64 0] 37)
  simpa using this)
 have HE:Hid (Boxed W1 (X+1+1+1) 37 (.int .i64 0)):=jq (by
  rw[<-am,<-hX]
  have:=Boxed.new (((w.alloc (.cells #[.slice A1 n1 c1,.slice A2 n2 c2,.string s,.int .i64 ty,.int .i64 life,.slice A3 n3 c3,.slice A4 n4 c4,.int .i64 drift,.int .i64 stop] 29)).alloc (.cells #[.string z] 9)).alloc (.cells #[.slice none 0 0] 52)) 37 (.int .i64 0)
  simpa using this)
 have gz:=jq hR;have lz:=jq hP;have Ig:=jq QB;have kh:=jq hp;have pI:Hid (1<w.heap.size):=jq hP.lt;rw[hX] at aI H3 H4 H5 H6 Ib gz pI |-;have aV:=jq aI;clear aI hR hP QB hp;refine (callsIn_wide (n:=0)).1 ?_;refine callsIn_of_wp_marks func61 rfl trivial ?_ rfl;simp only[ntmps61,List.size_toArray,List.length_cons,List.length_nil,Nat.reduceAdd,Nat.reduceSub,Array.replicate_succ,Array.replicate_zero,List.push_toArray,List.append_toArray,List.nil_append,List.cons_append];gi_wp2_with fail;refine⟨trivial,rfl,?_⟩;refine (callsIn_wide.2 (PL _ h pG.out W1 ((gz.out.keep aV.out).more (by omega)) (pu _ _ _ _ _ (mX _ _ _ _ _ Ib.out aV.out) (by omega)))).mono ?_;rw[pU.out];rintro e w2 ⟨rfl,ac⟩;have aN:=ac.size;have m0:=aaJ ac k0;have m1:=aaJ ac k1;have m2:=aaJ ac k2;have m3:=aaJ ac k3;have m4:=aaJ ac k4;have m5:=aaJ ac k5;have m6:=aaJ ac k6;have m7:=aaJ ac k7;have m8:=aaJ ac k8;have mz:=aaJ ac kz;have eS:=jq (a0J HO.out ac);have mw:=jq (a0J HE.out ac);have ai:=acZ aV ac;clear ac am hX k0 k1 k2 k3 k4 k5 k6 k7 k8 kz
 cases r with
 | false=>
  have HN:Hid (¬ Np.VHist h):=jq (λh=>by have:=Np.bh h;rw[pU.out] at this;cases this);have y0:=eS.out.cell;have y1:=eS.out.frozen;have z0:=mw.out.cell;have z1:=mw.out.frozen;gi_wp2_with fail;refine⟨trivial,?_⟩;gi_wp2_with fail;obtain⟨W,hW⟩:=acJ ((w2.setCell ⟨X+1+1,0,none⟩ (.slice none 0 0)).setCell ⟨X+1+1+1,0,none⟩ (.int .i64 1));have GA:Hid (Below X w W):=jq (by rw[<-hW];exact ((ai.out.setCell (p:=⟨X+1+1,0,none⟩) (by dsimp only;omega) _).setCell (p:=⟨X+1+1+1,0,none⟩) (by dsimp only;omega) _));have e0:W.cell? ⟨X+1+1,0,none⟩=some (.slice none 0 0):=by rw[<-hW];simp[go_sem,y0]
  have e1:W.cell? ⟨X+1+1+1,0,none⟩=some (.int .i64 1):=by rw[<-hW];simp[go_sem,z0]
  rw[hW];exact kV (v:=.tuple #[.slice none 0 0,.int .i64 1]) (by simp[results,results61,go_sem,e0,e1]) ⟨.inl ⟨λh=>HN.out h.1,rfl⟩,GA.out⟩
 | true=>
  have HV:Hid (Np.VHist h):=jq (Np.fq.1 pU.out);gi_wp2_with fail;refine⟨trivial,rfl,?_⟩;refine (callsIn_wide.2 (nameValid_any z hz _)).mono ?_;rintro e w3 ⟨rfl,aq⟩;have eR:=aq.size;replace m0:=aaJ aq m0;replace m1:=aaJ aq m1;replace m2:=aaJ aq m2;replace m3:=aaJ aq m3;replace m4:=aaJ aq m4;replace m5:=aaJ aq m5;replace m6:=aaJ aq m6;replace m7:=aaJ aq m7;replace m8:=aaJ aq m8;replace mz:=aaJ aq mz;have iD:=jq (a0J eS.out aq);have tG:=jq (a0J mw.out aq);have ar:=acZ ai aq;clear aq
  cases fJ:Np.aD z.data.toList with
  | false=>
   have kk:=jq fJ;clear fJ;have y0:=iD.out.cell;have y1:=iD.out.frozen;have z0:=tG.out.cell;have z1:=tG.out.frozen;gi_wp2_with fail;obtain⟨W,hW⟩:=acJ ((w3.setCell ⟨X+1+1,0,none⟩ (.slice none 0 0)).setCell ⟨X+1+1+1,0,none⟩ (.int .i64 1));have GA:Hid (Below X w W):=jq (by rw[<-hW];exact ((ar.out.setCell (p:=⟨X+1+1,0,none⟩) (by dsimp only;omega) _).setCell (p:=⟨X+1+1+1,0,none⟩) (by dsimp only;omega) _));have e0:W.cell? ⟨X+1+1,0,none⟩=some (.slice none 0 0):=by rw[<-hW];simp[go_sem,y0]
   have e1:W.cell? ⟨X+1+1+1,0,none⟩=some (.int .i64 1):=by rw[<-hW];simp[go_sem,z0]
   rw[hW];exact kV (v:=.tuple #[.slice none 0 0,.int .i64 1]) (by simp[results,results61,go_sem,e0,e1]) ⟨.inl ⟨λh=>absurd h.2 (by rw[kk.out];simp),rfl⟩,GA.out⟩
  | true=>
   have kk:=jq fJ;have bH:Hid (Np.vY h z.data.toList):=jq ⟨HV.out,fJ⟩;clear fJ;have hX4:X+4<=w3.heap.size:=by omega
   have mf:∀ (w:World),(Instr.makeMap 213 none).run prog w = .ok (.map (some w.heap.size)) (w.alloc (.map #[] 0)):=λw=>by
    simp[Instr.makeMap,Result.andThen]
   obtain⟨Bh,BE⟩:=acJ w3.heap.size;obtain⟨w4,bY⟩:=acJ ((((w3.alloc (.cells #[.slice none 0 0] 52)).alloc (.cells #[.bool false] 4)).alloc (.map #[] 0)).alloc (.cells #[.map (some (Bh+1+1))] 213));have aC:Below w3.heap.size w3 w4:=by rw[<-bY];exact ((((vQ _ _).alloc (bQ _) _).alloc (by simp) _).alloc (by simp <;> omega) _).alloc (by simp <;> omega) _
   have fl:w4.heap.size=Bh+4:=by rw[<-bY,<-BE];simp
   have v0:=aaJ aC m0;have v1:=aaJ aC m1;have v2:=aaJ aC m2;have v3:=aaJ aC m3;have v4:=aaJ aC m4;have v5:=aaJ aC m5;have v6:=aaJ aC m6;have v7:=aaJ aC m7;have v8:=aaJ aC m8;have vz:=aaJ aC mz;have DB:=jq (a0J iD.out aC);have T0:=jq (a0J tG.out aC);have aU:=acZ ar aC;have TB:Hid (Boxed w4 Bh 52 (.slice none 0 0)):=jq (by
    rw[<-bY,<-BE];exact (((Boxed.new w3 52 (.slice none 0 0)).alloc _).alloc _).alloc _)
   have TD:Hid (Boxed w4 (Bh+1) 4 (.bool false)):=jq (by
    rw[<-bY,<-BE]
    have:=((Boxed.new (w3.alloc (.cells #[.slice none 0 0] 52)) 4 (.bool false)).alloc (.map #[] 0)).alloc (.cells #[.map (some (w3.heap.size+1+1))] 213)
    simpa using this)
   have Tx:Hid (dG (Bh+1+1) [] w4):=jq (by
    rw[<-bY,<-BE]
    have:=(dG.made ((w3.alloc (.cells #[.slice none 0 0] 52)).alloc (.cells #[.bool false] 4))).stays (w':=((((w3.alloc (.cells #[.slice none 0 0] 52)).alloc (.cells #[.bool false] 4)).alloc (.map #[] 0)).alloc (.cells #[.map (some (w3.heap.size+1+1))] 213))) (Below.heap_alloc _ _ _ (by simp))
    simpa using this)
   have TH:Hid (Boxed w4 (Bh+1+1+1) 213 (.map (some (Bh+1+1)))):=jq (by
    rw[<-bY,<-BE]
    have:=Boxed.new (((w3.alloc (.cells #[.slice none 0 0] 52)).alloc (.cells #[.bool false] 4)).alloc (.map #[] 0)) 213 (.map (some (w3.heap.size+1+1)))
    simpa using this)
   clear m0 m1 m2 m3 m4 m5 m6 m7 m8 mz;gi_wp2_with fail;clear mf aC;refine⟨trivial,rfl,?_⟩;refine (callsIn_wide.2 (WE _ _ _ _ _ _ _ _ _ 138 #[.pointer (some ⟨X+1,0,none⟩)] w4)).mono ?_;rintro e w6 ⟨rfl,ct⟩;have iy:w6.heap.size=Bh+6:=by rw[ct];simp;omega
   have aW:Below w4.heap.size w4 w6:=by rw[ct];exact ((vQ _ _).alloc (bQ _) _).alloc (by simp) _
   have kX:w6.cell? ⟨Bh+4,1,none⟩=some (.slice A2 n2 c2):=by rw[ct,<-fl];simp[go_sem]
   have kO:w6.cell? ⟨Bh+4+1,0,none⟩=some (.func (.func 138) #[] #[.pointer (some ⟨X+1,0,none⟩)]):=by rw[ct,show Bh+4+1=w4.heap.size+1 by omega];simp[go_sem]
   rw[fl];obtain⟨L,iM,l5,p9⟩:=WT (H4.out.keep mp (aU.out.trans (aW.adZ)));have tJ:=jq (aaJ aW vz);have vH:=jq (WG L (λx=>x.1.str.data.toList == z.data.toList) 138 #[.pointer (some ⟨X+1,0,none⟩)] (Bh+4) (Bh+4+1) n2 c2 (λk=>k<w6.heap.size/\¬ (k=Bh\/k=Bh+1\/k=Bh+1+1)) A2 w6 ⟨by omega,by omega⟩ ⟨by omega,by omega⟩ kX kO l5 (by have:=pG.out.1;have:=vN.out;omega)
    (λi x hx=>by
      obtain⟨_,b,o,h1,h2,h3⟩:=p9 i x hx;exact⟨b,o,h1,⟨by omega,by omega⟩,h3⟩) Xb
    (λx hx W hW=>by
      have h1:=(hW.cell (p:=⟨X+1,0,none⟩) ⟨by dsimp only;omega,by dsimp only;omega⟩).trans tJ.out
      have:=hW.1
      exact auZ x.1.host x.1.frm x.1.til x.1.str _ x.1.A x.1.n x.1.c rfl (X+1) z W (by omega) h1))
   have qV:=jq (a0J DB.out aW);have T1:=jq (a0J T0.out aW);have TC:=jq (a0J TB.out aW);have TE:=jq (a0J TD.out aW);have Ty:Hid (dG (Bh+1+1) [] w6):=jq (Tx.out.keep aW (by omega));have TI:=jq (a0J TH.out aW);have dl:=acZ aU aW;have nr:=jq iM;have pJ:Hid (∀ x∈L,CVOf w6 X x.1 x.2):=jq (λx hx=>by obtain⟨i,hi⟩:=List.mem_iff_getElem?.1 hx;exact (p9 i x hi).1);clear aW ct bY kX kO iM p9 v0 v1 v2 v3 v4 v5 v6 v7 v8 vz;have Nn:=jq iy;gi_wp2_with fail;refine F7 (Dr:=λk=>k<w6.heap.size/\¬ (k=Bh\/k=Bh+1\/k=Bh+1+1)) (w0:=w6) (first:=#[]) (captured:=#[.pointer (some ⟨Bh+4,0,none⟩),.pointer (some ⟨Bh+4+1,0,none⟩)]) (gf:=141) rfl W8 (mk:=λy=>#[y,.pointer (some ⟨Bh+4,0,none⟩),.pointer (some ⟨Bh+4+1,0,none⟩)]) (λ_=>rfl)
    vH.out (fe.refl λk e=>e.1) (λ_=>rfl) (DT w6 Bh (Bh+1) (Bh+1+1) z) (λ_ _ _ _=>False)
    (RG _ _ _ _ _) (λc s S W W' h _=>h)
    (λk=>k=Bh\/k=Bh+1\/k=Bh+1+1) (λk h1 h2=>h2.2 h1) (by intro k h;omega)
    ⟨[],.slice none 0 0,λk=>k=Bh\/k=Bh+1\/k=Bh+1+1\/¬ (k=Bh\/k=Bh+1\/k=Bh+1+1),.inl rfl,.inr (.inl rfl),.inr (.inr rfl),(λk e=>by rcases e with e | ⟨x,hx,_⟩;cases e;cases hx),(λk e=>by omega),(λk e=>.inr (.inr (.inr e))),.inl rfl,.inr (.inl rfl),.inr (.inr (.inl rfl)),TC.out,TE.out,Ty.out,PubR.nil _ _ _ _,rfl,RdStep.refl _ _⟩ ?round ?done ?stop
   case stop=>
    rintro D c pre S W hD gW bE gI h hK;exact h.elim
   case done=>
    rintro D S W hD gW bE ⟨us,ov,M,Ey,BM,Ex,hown,BL,BK,mbo,mbt,mbm,qf,sK,ug,yZ,zk,aM⟩ hK;obtain⟨te,Fc⟩:=acJ ((L.filter λx=>x.1.str.data.toList == z.data.toList).isEmpty);have Ml:Hid (Np.yL h z.data.toList↔te=false):=jq (by
     rw[<-Fc,List.isEmpty_eq_false_iff_exists_mem];constructor
     ·rintro⟨c,hc,hz⟩;rw[<-nr.out] at hc;obtain⟨x,hx,rfl⟩:=List.mem_map.1 hc;exact⟨x,List.mem_filter.2 ⟨hx,by rw[(pJ.out x hx).apex,hz];simp⟩⟩
     ·rintro⟨x,hx⟩;obtain⟨h1,h2⟩:=List.mem_filter.1 hx;refine⟨x.2,by rw[<-nr.out];exact List.mem_map.2 ⟨x,h1,rfl⟩,?_⟩;rw[<-(pJ.out x h1).apex];simpa using h2)
    rw[Fc] at sK;have lY:Hid (us.map (λx=>(x.1,x.2.1))=Np.fC (Np.cX h.copies z.data.toList)):=jq (by rw[zk,Oe pJ.out,nr.out]);have sD:=aM.size;have An:Hid (D<W.heap.size):=jq (eQ.1 hK).1;have pZ:Below X w6 W:=aM.below (by omega) (λk e=>by omega);have ym:Hid (Below X w W):=acZ dl pZ;have iZ:Hid (Boxed W (X+1+1) 52 (.slice none 0 0)):=jq ((aM.keep (X+1+1) (by omega) (by omega)).trans qV.out);have GQ:Hid (Boxed W (X+1+1+1) 37 (.int .i64 0)):=jq ((aM.keep (X+1+1+1) (by omega) (by omega)).trans T1.out);have Gt:=jq qf;have yH:=jq gW;have ft:=jq BL;have AA:=jq hK;have yD:=jq (PubK.start yZ BK hown);have t0:=sK.cell;clear Fc zk aM pZ qf sK ug yZ BK hown BL gW hK mbo mbt mbm Ey BM Ex bE;have EC:X+1+1≠D:=by omega
    have Eo:X+1+1+1≠D:=by omega
    cases te with
    | true=>
     simp only[Bool.not_true] at t0;have o0:=iZ.out.cell;have o1:=iZ.out.frozen;have q0:=GQ.out.cell;have q1:=GQ.out.frozen;gi_wp2_with fail;obtain⟨W',hW'⟩:=acJ ((W.setCell ⟨X+1+1,0,none⟩ (.slice none 0 0)).setCell ⟨X+1+1+1,0,none⟩ (.int .i64 4));have Fn:W'.heap.size=W.heap.size:=by rw[<-hW'];simp
     have ET:∀ k,k≠X+1+1->k≠X+1+1+1->W'.heap[k]?=W.heap[k]?:=λk h1 h2=>by rw[<-hW'];exact (wQ _ _ _ k h2).trans (wQ _ _ _ k h1)
     have I6:Below X w W':=by rw[<-hW'];exact ((ym.out.setCell (p:=⟨X+1+1,0,none⟩) (by dsimp only;omega) _).setCell (p:=⟨X+1+1+1,0,none⟩) (by dsimp only;omega) _)
     have uB:W'.os=W.os/\W'.tape=W.tape/\W'.output=W.output:=by rw[<-hW'];simp[World.setCell]
     have Je:W'.heap[D]?=some (.deferred (some [])):=(ET D (Ne.symm EC) (Ne.symm Eo)).trans AA.out;have e0:W'.cell? ⟨X+1+1,0,none⟩=some (.slice none 0 0):=by rw[<-hW'];simp[go_sem,o0]
     have e1:W'.cell? ⟨X+1+1+1,0,none⟩=some (.int .i64 4):=by rw[<-hW'];simp[go_sem,q0]
     have f0:=(iQ (w:=W') (w':=W'.putObj D (.deferred none)) (a:=⟨X+1+1,0,none⟩) (zQ EC)).trans e0;have f1:=(iQ (w:=W') (w':=W'.putObj D (.deferred none)) (a:=⟨X+1+1+1,0,none⟩) (zQ Eo)).trans e1;rw[hW'];refine nJ Je (v:=.tuple #[.slice none 0 0,.int .i64 4]) (by simp[results,results61,go_sem,f0,f1]) ⟨.inr ⟨bH.out,.inl ⟨(λh=>by have:=Ml.out.1 h;cases this),rfl⟩⟩,mA I6 (by omega) _⟩
    | false=>
     simp only[Bool.not_false] at t0;obtain⟨n,hn⟩:=acJ us.length;obtain⟨oA,oc,rfl⟩:=yD.out.rows.row.formN hn;have MI:=jq hn;have b0:=Gt.out.cell;obtain⟨PS,Et⟩:=acJ (Np.cX h.copies z.data.toList);have nw:=jq Et;rw[Et] at lY;have MC:Hid ((Np.fC PS).length=n):=jq (by rw[<-lY.out,List.length_map];exact hn);have EY:n<=5000:=by rw[<-hn];have h1:=Rk lY.out;have h2:=kh.out;rw[Et] at h2;omega
     clear hn Et;gi_wp2_with fail;gi_loopw [83] (λI wr=>∃ (i:Nat) (us':List PT) (ov':Value) (M':Nat->Prop),i<=n/\I = .int .i64 i/\W.heap.size<=wr.heap.size/\Hid (us'.length=n)/\Hid (Boxed wr Bh 52 ov')/\Hid (PubK S W w6.heap.size z M' us' ov' wr)/\Hid (us'.map (λx=>(x.1,x.2.1))=rH (Np.fC PS) i)) (λI _=>n - (intOf I).toNat)
     case atStart=>exact⟨0,us,_,_,jQ _,rfl,bQ _,MI,Gt,yD,jq (by rw[apK];exact lY.out)⟩
     case round=>
      clear Gt yD lY MI b0 t0;obtain⟨i,us',ov',M',hi,rfl,QR,yB,yk,ip,Hf⟩:=hrel;by_cases ab:i<n
      ·obtain⟨g,cap,rfl,dL,JS,qh⟩:=ip.out.rows.row.formSome yB.out (by omega);have Ms:Hid (i<(Np.fC PS).length):=jq (by rw[MC.out];exact ab);obtain⟨⟨xs,xt,xv⟩,hx,hl⟩:=Rt Hf.out Ms.out;dsimp only at hl;have Fd:=Np.Rl hl;have uz:aJ w6.heap.size wr xv xt:=ip.out.rows.fresh _ (gQ hx);have yq:Hid (SlR cT 2 wr wr.heap.size xv xt):=jq (uz.slr (by have h1:=Np.Lv PS xs;rw[<-Fd] at h1;have h2:=kh.out;rw[nw.out] at h2;omega));have U1:Hid (∀ s∈xt,Np.Bn s):=jq (λs hs=>Np.avX (h:=h) (zone:=z.data.toList) (s:=xs) (by rw[nw.out,<-Fd];exact hs) HV.out);have U7:Hid (xt.length<=20000):=jq (by have h1:=Np.Lv PS xs;rw[<-Fd] at h1;have h2:=kh.out;rw[nw.out] at h2;omega);have HX:=jq hx;obtain⟨fA,fc,rfl⟩:=aJ.form uz;have f6:wr.cell? ⟨g,i * 8+6,none⟩=some (.slice fA xt.length fc):=JP ip.out.rows.row hx;obtain⟨fn,gj⟩:=acJ xt.length;rw[gj] at f6 HX yq;have b6:=yk.out.cell;have jT:(0:Int)<=(i:Int):=by omega
       have gZ:(i:Int)<(n:Int):=by omega
       clear hx hl Fd uz gj qh;gi_wp2_with fail;refine Dc λa0 bw=>?_;have jA:=jq bw;have iT:=jq (show a0.eval (.tmp 6) = .pointer (some ⟨Bh,0,none⟩) by rw[bw];rfl);have LU:=jq (show a0.eval (.tmp 15) = .int .i64 (i:Nat) by rw[bw];rfl);have HM:=jq (show a0.tmps.size=101 by rw[bw];rfl);clear bw;refine wpIn_wide.2 (wp_region_any (by kernel_rfl) ?_);refine gl 7 (D:=[0,1,2,3,4,5,6,11,12]) (val:=pt g n cap i fA fn fc undef) FC FD (rr HM.out) (by kernel_rfl) ?_ ?_
       ·intro i aR bS o ho a' hb aP;have k6':=aZJ hb iT.out;have k15':=aZJ hb LU.out;simp[Act.eval] at k6' k15'
        repeat' (rcases aR with _ | ⟨_,aR⟩)
        all_goals first
         | (exfalso;simp at bS;done)
         | (cases ho
            try simp[Act.eval,Region.binds,pt,pr] at aP
            refine gv (by simp[Region.wanted]) ?_;simp[Oper.quietAt,Oper.quietUpon,execOp,go_sem,pt,k6',k15',b6,f6,jT,gZ,C0,FE,aP])
       ·intro f listed a' hH hr hv;have av6:=hv 6;simp[Act.eval,pt,pr] at av6;simp only[wpOp];simp[Region.wanted];refine .inl ?_;simp[Oper.wp,go_sem,av6];refine (Rr _ xt U7.out U1.out wr.drew (yq.out.keep eE (vQ wr.heap.size wr).drew)).mono ?_;rintro e wC ⟨v2,rfl,ji,BU⟩;have kq:Below wr.heap.size wr wC:=(vQ wr.heap.size wr).drew.trans BU;have hzC:=kq.size;replace b6:=aaJ kq b6;replace f6:=aaJ kq f6;have wN:=(World.frozen?_of_block (a:=⟨g,i * 8+6,none⟩) (kq.block g (by omega))).trans (ip.out.rows.row.frozenAt yB.out _);obtain⟨gA,gc,rfl⟩:=aJ.form ji;obtain⟨gn,eH⟩:=acJ ((Np.bT xt).length);rw[eH] at ji |-;have eS:=jq ji;have iz:=jq kq;clear ji kq BU eH;dsimp only;refine gl 13 (D:=[0,1,2,3,4,5,6,8,9,10,11,12,7]) (val:=pt g n cap i fA fn fc (.tuple #[.slice gA gn gc,.int .i64 0])) FC FD (hH.next FC FD hr) (by kernel_rfl) ?_ ?_
        ·intro i aR bS o ho a' hb aP;have k6':=aZJ hb iT.out;have k15':=aZJ hb LU.out;simp[Act.eval] at k6' k15'
         repeat' (rcases aR with _ | ⟨_,aR⟩)
         all_goals first
          | (exfalso;simp at bS;done)
          | (cases ho
             try simp[Act.eval,Region.binds,pt,pr] at aP
             refine gv (by simp[Region.wanted]) ?_;simp[Oper.quietAt,Oper.quietUpon,execOp,go_sem,pt,k6',k15',b6,f6,jT,gZ,C0,FE,aP])
        ·intro f listed a' hH hr hv;have av9:=hv 9;have av12:=hv 12;simp[Act.eval,pt,pr,C0] at av9 av12;simp only[wpOp];simp[Region.wanted];refine .inl ?_;simp[Oper.wp,execOp,go_sem,av9,av12,f6,wN];clear b6 f6 wN;obtain⟨W',hW'⟩:=acJ (wC.setCell ⟨g,i * 8+6,none⟩ (.slice gA gn gc));have Mv:=jq (ip.out.normed yB.out HX.out (ps':=Np.bT xt) iz.out eS.out (by have:=ip.out.rd.size;omega));rw[hW'] at Mv |-;have fw:Below w6.heap.size wr W':=by rw[<-hW'];exact (iz.out.mono (by have:=ip.out.rd.size;omega)).setCell (by dsimp only;omega) _
         have mt:=jq (a0J yk.out fw);clear fw;have Fl:W'.heap.size=wC.heap.size:=by rw[<-hW'];simp[World.setCell]
         refine aUX (R:=[10]) (D:=[0,1,2,3,4,5,6,8,9,10,11,12,7]) (dst:=pr) (val:=pt g n cap i fA fn fc (.tuple #[.slice gA gn gc,.int .i64 0])) (a0:=a0) (m:=101) HM.out (SY (by kernel_rfl)) (by simp) (λi hi=>?_) (λi hi=>by simp at hi;subst hi;exact⟨_,rfl,rfl⟩) (λi hi=>(FC i hi).1) FD (λi hi o ho e he hb=>?_) (λi hi o ho a' aP=>?_) ?_ _ _ _ (hH.rest hr (by simp) (by kernel_rfl))
         ·simp at hi |-;omega
         ·simp at hi;subst hi
          cases ho
          simp at he;rcases he with rfl | rfl
          ·simp
          ·simp[Region.binds] at hb
         ·simp at hi;subst hi
          cases ho
          simp[Act.eval,Region.binds,pt,pr] at aP;refine gv (by simp[Region.wanted]) ?_;simp[Oper.quietAt,Oper.quietUpon,execOp,go_sem,pt,C0,FE,aP]
         ·rw[jA.out];simp[lp,Act.put,pt,pr];clear hv hH;gi_wp2_with fail;go_roundw
          case measure=>simp[intOf] <;> omega
          case rel=>exact⟨i+1,_,_,_,by omega,by go_num,by omega,jq (by rw[List.length_set];exact yB.out),mt,Mv,jq (apJ Hf.out Ms.out HX.out _)⟩
      ·obtain rfl:i=n:=by omega
       obtain⟨oA',oc',rfl⟩:=ip.out.rows.row.formN yB.out;have b0:=yk.out.cell;have O3:¬ S (X+1+1):=λe=>by have:=ft.out _ e;omega
       have Ep:¬ S (X+1+1+1):=λe=>by have:=ft.out _ e;omega
       have MP:Hid (Boxed wr (X+1+1) 52 (.slice none 0 0)):=jq ((ip.out.rd.keep (X+1+1) (by omega) O3).trans iZ.out);have Me:Hid (Boxed wr (X+1+1+1) 37 (.int .i64 0)):=jq ((ip.out.rd.keep (X+1+1+1) (by omega) Ep).trans GQ.out);have qL:Hid (wr.heap[D]?=some (.deferred (some []))):=jq ((ip.out.rd.keep D An.out yH.out).trans AA.out);have bG:Hid (Below X w wr):=jq (ym.out.trans (ip.out.rd.below (by omega) (λk e=>by have:=ft.out k e;omega)));have o0:=MP.out.cell;have o1:=MP.out.frozen;have q0:=Me.out.cell;have q1:=Me.out.frozen;gi_wp2_with fail;obtain⟨W',hW'⟩:=acJ ((wr.setCell ⟨X+1+1,0,none⟩ (.slice oA' i oc')).setCell ⟨X+1+1+1,0,none⟩ (.int .i64 0));have Fn:W'.heap.size=wr.heap.size:=by rw[<-hW'];simp
       have ET:∀ k,k≠X+1+1->k≠X+1+1+1->W'.heap[k]?=wr.heap[k]?:=λk h1 h2=>by rw[<-hW'];exact (wQ _ _ _ k h2).trans (wQ _ _ _ k h1)
       have I6:Below X w W':=by rw[<-hW'];exact ((bG.out.setCell (p:=⟨X+1+1,0,none⟩) (by dsimp only;omega) _).setCell (p:=⟨X+1+1+1,0,none⟩) (by dsimp only;omega) _)
       have uB:W'.os=wr.os/\W'.tape=wr.tape/\W'.output=wr.output:=by rw[<-hW'];simp[World.setCell]
       have Je:W'.heap[D]?=some (.deferred (some [])):=(ET D (Ne.symm EC) (Ne.symm Eo)).trans qL.out;have e0:W'.cell? ⟨X+1+1,0,none⟩=some (.slice oA' i oc'):=by rw[<-hW'];simp[go_sem,o0]
       have e1:W'.cell? ⟨X+1+1+1,0,none⟩=some (.int .i64 0):=by rw[<-hW'];simp[go_sem,q0]
       have f0:=(iQ (w:=W') (w':=W'.putObj D (.deferred none)) (a:=⟨X+1+1,0,none⟩) (zQ EC)).trans e0;have f1:=(iQ (w:=W') (w':=W'.putObj D (.deferred none)) (a:=⟨X+1+1+1,0,none⟩) (zQ Eo)).trans e1;rw[hW'];have Ze:∀ k,k≠X+1+1->k≠X+1+1+1->k≠D->(W'.putObj D (.deferred none)).heap[k]?=wr.heap[k]?:=λk h1 h2 h3=>(zQ h3).trans (ET k h1 h2);have hzV:(W'.putObj D (.deferred none)).heap.size=wr.heap.size:=by simpa using Fn
       have AJ:=jq (ip.out.calm (T:=λk=>k=X+1+1\/k=X+1+1+1\/k=D) (λk e=>by
        rcases e with rfl | rfl | rfl
        ·exact⟨by omega,O3⟩
        ·exact⟨by omega,Ep⟩
        ·exact⟨An.out,yH.out⟩) (w':=W'.putObj D (.deferred none)) uB hzV (λk hk=>Ze k (λe=>hk (.inl e)) (λe=>hk (.inr (.inl e))) (λe=>hk (.inr (.inr e)))))
       refine nJ Je (v:=.tuple #[.slice oA' i oc',.int .i64 0]) (by simp[results,results61,go_sem,f0,f1]) ⟨.inr ⟨bH.out,.inr ⟨(by have h1:=Ml.out;simpa using h1),_,rfl,?_⟩⟩,mA I6 (by omega) _⟩;intro Mq XZ;have uM:=yB.out;have P4:us'.map (λx=>(x.1,x.2.1))=(Np.fC PS).map λx=>(x.1,Np.bT x.2):=by rw[Hf.out,apZ MC.out]
       have Zy:(us'.map λx=>(⟨z.data.toList,x.1,x.2.1,[]⟩:Np.Held))=Np.pub h.copies z.data.toList:=by
        have h1:=Qd (List.map λx:Np.Signed×List Np.Span=>(⟨z.data.toList,x.1,x.2,[]⟩:Np.Held)) P4;rw[List.map_map,List.map_map] at h1;refine Eq.trans h1 ?_;rw[<-nw.out];exact (Np.amZ Np.bT _ _).symm
       rw[<-Zy];exact AJ.out.slr hz (by omega) (λx hx=>by
        have h1:(x.1,x.2.1)∈us'.map (λx=>(x.1,x.2.1)):=List.mem_map.2 ⟨x,hx,rfl⟩;rw[P4] at h1;obtain⟨y,hy,he⟩:=List.mem_map.1 h1;simp only[Prod.mk.injEq] at he;rw[<-he.2];obtain⟨j,hj⟩:=List.mem_iff_getElem?.1 hy;have h2:=rG y.2;have h3:=Np.Lv PS y.1;rw[<-Np.Rl hj] at h3;have h4:=kh.out;rw[nw.out] at h4;omega) (λk hk=>by
        have h1:=XZ k hk;refine⟨ip.out.ex k (by omega) (λe=>by have:=ft.out k e;omega),λe=>by have:=(AJ.out.lt e).1;omega⟩)
   case round=>
    rintro l0 pre ⟨⟨xh,xf,xt,xs,xA,xn,xc⟩,cc⟩ S W ba hI fR;have DO:Hid ((⟨⟨xh,xf,xt,xs,xA,xn,xc⟩,cc⟩:CV×Np.Copy)∈L):=jq ((List.mem_filter.1 (ba.subset (by simp:(⟨⟨xh,xf,xt,xs,xA,xn,xc⟩,cc⟩:CV×Np.Copy)∈_))).1);have mC:=avQ hI ((vQ _ W).alloc (bQ _) (.cells #[.int .i64 xh,.int .i64 xf,.int .i64 xt,.string xs,.slice xA xn xc] 46));have sD:w6.heap.size<=W.heap.size:=by obtain⟨_,_,_,_,_,_,_,_,_,_,_,_,_,_,_,_,_,hB⟩:=hI;exact hB.size
    have gw:=jq ba;clear hI ba;gi_wp2;refine⟨λk=>S k\/k=W.heap.size,(RdStep.refl S W).alloc _,λk e=>e.imp id (λh=>by omega),λk e=>by rcases e with e | e;have:=fR k e;simp;omega;simp;omega,?_⟩;intro l W₂ aB;have XV:=RG w6 Bh (Bh+1) (Bh+1+1) z pre S _ W₂ mC (aB.weaken (bQ _) (λk e=>.inl e));have li:=aB.size;simp only[World.size_alloc] at li;have eG:W₂.heap[W.heap.size]?=some (.cells #[.int .i64 xh,.int .i64 xf,.int .i64 xt,.string xs,.slice xA xn xc] 46):=(aB.keep W.heap.size (by simp) (.inr (.inr rfl))).trans (heap_alloc_new _ _);obtain⟨us,ov,M,Ey,BM,Ex,hown,BL,BK,mbo,mbt,mbm,qf,sK,ug,yZ,zk,aM⟩:=XV;have U0:Hid (∀ k,S k->k<W.heap.size):=jq fR;have ft:=jq BL;have AR:=jq (And.intro Ey (And.intro BM Ex));have Dp:Hid (CVOf w6 X ⟨xh,xf,xt,xs,xA,xn,xc⟩ cc):=jq (pJ.out _ DO.out);have pZ:Below X w6 W₂:=aM.below (by omega) (λk e=>by omega);have Tq:=jq (dl.out.trans pZ);have qY:=jq aM;obtain⟨sets,zu⟩:=acJ cc.zone.sets;have sk:=jq zu;have UX:Hid (SlR bO 5 W₂ X (.slice xA xn xc) sets):=jq (by have:=(Dp.out.keep pZ).sets;rw[zu] at this;exact this);have xN:sets.length=xn:=by rw[<-zu];exact Dp.out.len
    have Bb:=jq xN;have uh:cc∈h.copies:=by rw[<-nr.out];exact List.mem_map.2 ⟨_,DO.out,rfl⟩
    have lu:=jq uh;have abY:xn<=20000:=by rw[<-xN,<-zu];exact pG.out.2 cc uh
    have O0:Np.j8 cc=⟨xf,xt⟩:=by
     have h1:=Dp.out.frm;have h2:=Dp.out.til;dsimp only at h1 h2;unfold Np.j8;rw[h1,h2]
    obtain⟨PP,Jj⟩:=acJ ((pre.map (·.2)).flatMap Np.oe);rw[Jj] at zk;have qD:Hid (((pre ++ [((⟨xh,xf,xt,xs,xA,xn,xc⟩,cc):CV×Np.Copy)]).map (·.2)).flatMap Np.oe=PP++sets.map λs=>((⟨xf,xt⟩:Np.Span),s)):=jq (by
     rw[List.map_append,List.flatMap_append,Jj];simp[Np.oe,O0,zu])
    have M9:Hid (∃ c,Np.cX h.copies z.data.toList=(PP++sets.map λs=>((⟨xf,xt⟩:Np.Span),s))++c):=jq (by
     obtain⟨c,hc⟩:=asK gw.out;rw[qD.out,Oe pJ.out,nr.out] at hc;exact⟨c,hc⟩)
    have MR:Hid (∀ j,(psP PP ⟨xf,xt⟩ sets j).length<=5000):=jq (λj=>by
     obtain⟨c,hc⟩:=M9.out;have h1:=Qd List.length hc;have h2:=atJ PP ⟨xf,xt⟩ sets j;have h3:=kh.out;rw[List.length_append] at h1;omega)
    have UH:Hid (∀ j,∀ p∈psP PP ⟨xf,xt⟩ sets j,Np.Plain47 p.2):=jq (λj p hp=>by
     obtain⟨c,hc⟩:=M9.out;have h1:p∈Np.cX h.copies z.data.toList:=by rw[hc];exact List.mem_append.2 (.inl (atK hp))
     obtain⟨d,hd,_,hs,_⟩:=Np.uS.1 h1;exact Np.LQ (HV.out.each d hd).zone hs (Ig.out d hd _ hs))
    obtain⟨w7,eX⟩:=acJ (W₂.setCell ⟨Bh+1,0,none⟩ (.bool true));have t7:Turned (Bh+1) W₂ w7:=by rw[<-eX];exact⟨rfl,rfl,rfl,by simp[World.setCell],λi hi=>wQ _ _ _ _ hi⟩
    have mR:w7.heap.size=W₂.heap.size:=t7.size;have Ys:=sK.cell;have Yt:=sK.frozen;have L6:Hid (Boxed w7 (Bh+1) 4 (.bool true)):=jq (by rw[<-eX];exact sK.set _);have L4:Hid (Boxed w7 Bh 52 ov):=jq ((t7.block Bh (by omega)).trans qf);have L2:Hid (dG (Bh+1+1) (Np.oa (us.map (·.1))) w7):=jq (ug.stays (t7.block _ (by omega)));have jD:=jq eG;have Pm:=(t7.block W.heap.size (by omega)).trans eG;have Mt:Hid (PubK S W₂ w6.heap.size z (λk=>M k/\k<W₂.heap.size) us ov w7):=jq ((PubK.start yZ BK hown).touch ⟨mbt,sK.lt⟩ (.inl BM) (λe=>by have:=(yZ.lt e).1;omega) t7);have Yv:w7.cell? ⟨W.heap.size,4,none⟩=some (.slice xA xn xc):=by simp[World.cell?,Pm]
    have Nq:Hid (W₂.heap[X+1]?=w6.heap[X+1]?/\W₂.heap[Bh+1+1+1]?=w6.heap[Bh+1+1+1]?):=jq ⟨aM.keep _ (by omega) (by omega),aM.keep _ (by omega) (by omega)⟩;have MB:Hid ((M Bh/\Bh<W₂.heap.size)/\(M (Bh+1+1)/\Bh+1+1<W₂.heap.size)/\(M (Bh+1)/\Bh+1<W₂.heap.size)):=jq ⟨⟨mbo,by omega⟩,⟨mbm,by omega⟩,⟨mbt,by omega⟩⟩;have MF:=jq zk;have hXW:X+4<=Bh:=by omega
    have BC:Bh+6<=W.heap.size:=by omega
    have Jl:W.heap.size<W₂.heap.size:=by omega
    have Pi:¬ S W.heap.size:=λe=>by have:=fR _ e;omega
    have Dq:=jq Pi;clear Jj zu qf sK ug yZ zk aM t7 eG Pm mC aB fR BL BK mbo mbt mbm hown Ey BM Ex pZ O0 uh Pi;gi_wp2_with fail;clear eX Yv Ys Yt;obtain⟨ih,Y2,YW,YX,YY⟩:=info_parts Tryz.infoHeldA;gi_loopw [33] (λi wr=>∃ (j:Nat) (us:List PT) (ov:Value) (M:Nat->Prop),j<=xn/\i = .int .i64 j/\W₂.heap.size<=wr.heap.size/\Hid (Boxed wr Bh 52 ov)/\Hid (Boxed wr (Bh+1) 4 (.bool true))/\Hid (dG (Bh+1+1) (Np.oa (us.map (·.1))) wr)/\Hid (PubK S W₂ w6.heap.size z M us ov wr)/\Hid (M Bh/\M (Bh+1+1)/\M (Bh+1))/\Hid (us.map (λx=>(x.1,x.2.1))=Np.fC (psP PP ⟨xf,xt⟩ sets j))) (λi _=>xn - (intOf i).toNat)
    case atStart=>exact⟨0,us,ov,_,jQ _,rfl,by omega,L4,L6,L2,Mt,MB,jq (by rw[atY];exact MF.out)⟩
    case round=>
     clear L4 L6 L2 Mt MB MF mR;obtain⟨j,us,ov,M,hj,rfl,QR,yk,L8,L3,ip,dt,lY⟩:=hrel;have bG:Hid (Below X w wr):=jq (Tq.out.trans (ip.out.rd.below (by omega) (λk e=>by have:=ft.out k e;omega)));have Dw:Hid (∀ k,k<W₂.heap.size->¬ S k->wr.heap[k]?=W₂.heap[k]?):=jq ip.out.rd.keep;by_cases ab:j<xn
     ·obtain⟨x,aa⟩:∃ x,sets[j]?=some x:=⟨_,aQ (by rw[Bb.out];exact ab)⟩;obtain⟨b',o,c',ss,dv,sv,hA,hb',_,hs,CG,aK,aS,e0,e1,e2,e3,e4⟩:=fE (UX.out.keep bj (ip.out.rd.below (n:=X) (by omega) (λk e=>by have:=ft.out k e;omega))) aa;simp only[Value.slice.injEq] at hA;obtain⟨rfl,-,rfl⟩:=hA;have nZ:x∈cc.zone.sets:=by rw[sk.out];exact gQ aa
      have Ax:Hid (KeyS x):=jq (Tk (HV.out.each cc lu.out).zone nZ (Ig.out cc lu.out x nZ));have MT:Hid (Np.Plain47 x):=jq (Np.LQ (HV.out.each cc lu.out).zone nZ (Ig.out cc lu.out x nZ));have bC:Hid (psP PP ⟨xf,xt⟩ sets (j+1)=psP PP ⟨xf,xt⟩ sets j ++ [(⟨xf,xt⟩,x)]):=jq (atX aa);have gR:=jq (And.intro hs CG);have lC:Hid ((⟨⟨ss.data.toList,x.set.type,x.set.life,x.set.data⟩,x.sigs⟩:Np.Signed)=x):=jq (by rw[hs]);have kK:Hid (x.set.data.length<=1000/\x.sigs.length<=1000):=jq (by have h1:=Ax.out.few;have h2:=Ax.out.fewS;omega);have im:Hid (∀ W',Below X wr W'->SlR bR 3 W' W'.heap.size dv x.set.data):=jq (λW' hb=>(aK.keep bV hb).more cu (by have:=hb.size;omega));have nk:Hid (∀ W',Below X wr W'->SlR cS 6 W' W'.heap.size sv x.sigs):=jq (λW' hb=>(aS.keep cg hb).more cY (by have:=hb.size;omega));obtain⟨dA,dc,rfl,_,_⟩:=ak aK;obtain⟨gA,gc,rfl,_,_⟩:=ak aS;obtain⟨dn,lJ⟩:=acJ x.set.data.length;obtain⟨gn,eH⟩:=acJ x.sigs.length;rw[lJ] at e3 im;rw[eH] at e4 nk;have lV:=jq lJ;have T7:=jq eH;clear aa hs CG aK aS lJ eH nZ;have bJ:(0:Int)<=(j:Int):=by omega
      have bI:(j:Int)<(xn:Int):=by omega
      obtain⟨w8,eB⟩:=acJ (wr.alloc (.cells #[.string ss,.int .i64 x.set.type,.int .i64 x.set.life,.slice dA dn dc,.slice gA gn gc] 42));have n7:w8.heap.size=wr.heap.size+1:=by rw[<-eB];simp
      have cL:Below wr.heap.size wr w8:=by rw[<-eB];exact (vQ _ _).alloc (bQ _) _
      have p0:w8.cell? ⟨wr.heap.size,0,none⟩=some (.string ss):=by rw[<-eB];simp[go_sem]
      have p1:w8.cell? ⟨wr.heap.size,1,none⟩=some (.int .i64 x.set.type):=by rw[<-eB];simp[go_sem]
      have p2:w8.cell? ⟨wr.heap.size,2,none⟩=some (.int .i64 x.set.life):=by rw[<-eB];simp[go_sem]
      have p3:w8.cell? ⟨wr.heap.size,3,none⟩=some (.slice dA dn dc):=by rw[<-eB];simp[go_sem]
      have p4:w8.cell? ⟨wr.heap.size,4,none⟩=some (.slice gA gn gc):=by rw[<-eB];simp[go_sem]
      have eF:=jq cL;clear cL;gi_wp2_with fail;refine⟨trivial,rfl,?_⟩;refine (CallsIn.inRound l (callsIn_wide.2 (aOJ ss x.set.type x.set.life _ _ x.set.data x.sigs w8 (lz.out.keepAt (bG.out.trans (eF.out.adZ)) pI.out) (by rw[lC.out];exact Ax.out) (im.out w8 (eF.out.adZ)) (nk.out w8 (eF.out.adZ))))).mono ?_;rw[lC.out];rintro e w9 ⟨rfl,jf⟩;clear eB e0 e1 e2 e3 e4;have qv:=jf.size;have cR:Hid (Below wr.heap.size wr w9):=acZ eF jf;replace p0:=aaJ jf p0;replace p1:=aaJ jf p1;replace p2:=aaJ jf p2;replace p3:=aaJ jf p3;replace p4:=aaJ jf p4;have Dl:=jq (a0J yk.out cR.out);have L7:=jq (a0J L8.out cR.out);have Gs:Hid (dG (Bh+1+1) (Np.oa (us.map (·.1))) w9):=jq (L3.out.keep cR.out (by omega));have rY:=jq (ip.out.keep cR.out);have EM:=(cR.out.block _ (by omega)).trans ((Dw.out _ (by omega) Dq.out).trans jD.out);have Pq:w9.heap[X+1]?=w6.heap[X+1]?:=(cR.out.block _ (by omega)).trans ((Dw.out _ (by omega) (λe=>by have:=ft.out _ e;omega)).trans Nq.out.1);have Po:w9.heap[Bh+1+1+1]?=w6.heap[Bh+1+1+1]?:=(cR.out.block _ (by omega)).trans ((Dw.out _ (by omega) (λe=>by have:=ft.out _ e;omega)).trans Nq.out.2);have bx:w9.cell? ⟨Bh+1+1+1,0,none⟩=some (.map (some (Bh+1+1))):=(iQ Po).trans TI.out.cell;have kz:w9.cell? ⟨X+1,0,none⟩=some (.string z):=(iQ Pq).trans tJ.out;have jw:=aIQ (P:=prog) w9 213 9 3 underlying213 underlying9 (Bh+1+1) _ Gs.out (Np.dE x) (.int .i64 0) (by kernel_rfl);have DK:Hid (∀ y∈us.map (·.1),Np.Plain47 y):=jq (λy hy=>by
       rw[Fx lY.out] at hy;obtain⟨p,hp,rfl⟩:=List.mem_map.1 (Np.th.1 hy);exact UH.out j p hp)
      have AX:Hid ((us.map (·.1)).Nodup):=jq (by rw[Fx lY.out];exact Np.xR _);have Nf:Hid (us.length<=5000):=jq (by have h1:=Rk lY.out;have h2:=MR.out j;omega);clear jf Pq Po;obtain⟨key,mI⟩:=acJ (Np.dE x);rw[mI] at jw |-;by_cases hin:x∈us.map (·.1)
      ·obtain⟨q,hq⟩:=List.mem_iff_getElem?.1 hin;have er:(Np.oa (us.map (·.1))).lookup key=some (.int .i64 ((q:Nat):Int)):=by rw[<-mI];exact Np.ahQ MT.out DK.out AX.out hq
       rw[er] at jw;simp only[Option.getD_some,Option.isSome_some] at jw;rw[Fx lY.out] at hq;obtain⟨fv,hy⟩:=amY lY.out hq;obtain⟨tl,jV⟩:=acJ (Np.fd (psP PP ⟨xf,xt⟩ sets j) x);have jl:Hid (∀ v',(us.set q (x,tl ++ [⟨xf,xt⟩],v')).map (λx=>(x.1,x.2.1))=Np.fC (psP PP ⟨xf,xt⟩ sets (j+1))):=jq (λv'=>by rw[bC.out,<-jV];exact anZ lY.out hq _ v');have Ik:Hid (tl.length<=5000):=jq (by rw[<-jV];have h1:=Lw (psP PP ⟨xf,xt⟩ sets j) x;have h2:=MR.out j;omega);rw[jV] at hy;clear hin er hq jV mI;obtain⟨n,hn⟩:=acJ us.length;have bbK:q<n:=by rw[<-hn];exact (cQ.1 hy).1
       obtain⟨g,cap,rfl,dL,JS,qh⟩:=rY.out.rows.row.formSome hn (by omega);have cO:=jq hn;have EY:n<=5000:=by rw[<-hn];exact Nf.out
       have uz:aJ w6.heap.size w9 fv tl:=rY.out.rows.fresh _ (gQ hy);obtain⟨fA,fc,rfl⟩:=aJ.form uz;obtain⟨fn,gj⟩:=acJ tl.length;rw[gj] at hy uz;have vE:=jq gj;have HY:=jq hy;have g9:Hid (∀ k,(Value.slice fA fn fc).ownBlock=some k->w6.heap.size<=k/\k≠g/\k≠W.heap.size):=jq (λk e=>by
        have h1:=World.ownsRow.lt uz k e;have h2:=(rY.out.rows.off _ (gQ hy) k e).1;have h3:=rY.out.own k (.inr ⟨_,gQ hy,e⟩);exact⟨h1.1,λe=>h2 (by rw[e];rfl),λe2=>by
         subst e2;rcases h3 with h3 | h3
         ·exact Dq.out h3
         ·omega⟩)
       have b6:=Dl.out.cell;have f6:w9.cell? ⟨g,q * 8+6,none⟩=some (.slice fA fn fc):=JP rY.out.rows.row hy;have c1:w9.cell? ⟨W.heap.size,1,none⟩=some (.int .i64 xf):=by simp[World.cell?,EM]
       have c2:w9.cell? ⟨W.heap.size,2,none⟩=some (.int .i64 xt):=by simp[World.cell?,EM]
       have jT:(0:Int)<=(q:Int):=by omega
       have gZ:(q:Int)<(n:Int):=by omega
       have sO:decide ((20000:Int)<(n:Int))=false:=adJ;have YV:decide (20000<n)=false:=adJ;have rX:=rY;have Dk:=Dl;have Gu:=L7;have Dj:=Gs;have vM:=dt;have YU:W.heap.size<w9.heap.size:=by omega
       clear hn hy uz gj EM qh;gi_wp2_with fail;refine Dc λa0 bw=>?_;have jA:=jq bw;have iT:=jq (show a0.eval (.tmp 6) = .pointer (some ⟨Bh,0,none⟩) by rw[bw];rfl);have qC:=jq (show a0.eval (.tmp 13) = .int .i64 (q:Nat) by rw[bw];rfl);have lU:=jq (show a0.eval (.tmp 9) = .pointer (some ⟨W.heap.size,0,none⟩) by rw[bw];rfl);have HM:=jq (show a0.tmps.size=101 by rw[bw];rfl);clear bw;refine F8 (by kernel_rfl) (by kernel_rfl) (by rintro⟨_,_,h⟩;exact h) ?_;refine gl 12 (D:=[0,1,2,3,4,5,6,7,8,9,10,11,14,15]) (val:=gO g n cap q fA fn fc W.heap.size xf xt undef undef) pq rJ (rr HM.out) (by kernel_rfl) ?_ ?_
       ·intro i aR bS o ho a' hb aP;have k6':=aZJ hb iT.out;have k13':=aZJ hb qC.out;have k9':=aZJ hb lU.out;simp[Act.eval] at k6' k13' k9'
        repeat' (rcases aR with _ | ⟨_,aR⟩)
        all_goals first
         | (exfalso;simp at bS;done)
         | (cases ho
            try simp[Act.eval,Region.binds,gO,jX] at aP
            refine gv (by simp[Region.wanted]) ?_;simp[Oper.quietAt,Oper.quietUpon,execOp,go_sem,gO,k6',k13',k9',b6,f6,c1,c2,jT,gZ,aP])
       ·intro f listed a' hH hr hv;have av11:=hv 11;simp[Act.eval,gO,jX] at av11;simp only[wpOp];simp[Region.wanted];refine .inl ?_;simp[Oper.wp,execOp,go_sem,av11];obtain⟨wA,fz⟩:=acY ((w9.alloc (.cells #[.int .i64 xf,.int .i64 xt] 110)).drew);rw[<-fz];have dI:Below w9.heap.size w9 wA:=by rw[fz];exact ((vQ _ _).alloc (bQ _) _).drew
        have CR:wA.heap.size=w9.heap.size+1:=by rw[fz];simp[World.drew]
        have tD:Hid (wA.cell? ⟨w9.heap.size,0,none⟩=some (.int .i64 xf)/\wA.cell? ⟨w9.heap.size,1,none⟩=some (.int .i64 xt)):=jq (by rw[fz];exact⟨by simp[go_sem],by simp[go_sem]⟩);replace b6:=aaJ dI b6;replace f6:=aaJ dI f6;replace c1:=aaJ dI c1;replace c2:=aaJ dI c2;have vI:=jq (rX.out.keep dI);have dY:=jq dI;clear fz dI;refine gl 13 (D:=[0,1,2,3,4,5,6,7,8,9,10,11,14,15,12]) (val:=gO g n cap q fA fn fc W.heap.size xf xt (.slice (some ⟨w9.heap.size,0,none⟩) 1 1) undef) pq rJ (hH.next pq rJ hr) (by kernel_rfl) ?_ ?_
        ·intro i aR bS o ho a' hb aP;have k6':=aZJ hb iT.out;have k13':=aZJ hb qC.out;have k9':=aZJ hb lU.out;simp[Act.eval] at k6' k13' k9'
         repeat' (rcases aR with _ | ⟨_,aR⟩)
         all_goals first
          | (exfalso;simp at bS;done)
          | (cases ho
             try simp[Act.eval,Region.binds,gO,jX] at aP
             refine gv (by simp[Region.wanted]) ?_;simp[Oper.quietAt,Oper.quietUpon,execOp,go_sem,gO,k6',k13',k9',b6,f6,c1,c2,jT,gZ,aP])
        ·intro f listed a' hH hr hv;have av6:=hv 6;have av12:=hv 12;simp[gO,jX] at av6 av12;simp only[wpOp];simp[Region.wanted];refine .inl ?_;refine LN wA (.tmp 68) (.tmp 74) rfl w6.heap.size (.slice fA fn fc) tl av6 (vI.out.rows.fresh _ (gQ HY.out)) w9.heap.size xf xt av12 tD.out.1 tD.out.2 (by have:=Ik.out;omega) (by omega) ?_;intro v8 wB eV dw iN;obtain⟨eA,ec,rfl⟩:=FA eV (n:=(fn+1)) (by rw[List.length_append,vE.out];rfl);have Fk:=dw.size;have ffA:wA.frozen? ⟨g,q * 8+6,none⟩=false:=vI.out.rows.row.frozenAt cO.out _;have sT:wB.heap[Bh]?=wA.heap[Bh]?:=dw.block Bh (by omega) (λe=>by have:=(g9.out Bh e.symm).1;omega);have xb:wB.heap[g]?=wA.heap[g]?:=dw.block g (by omega) (λe=>(g9.out g e.symm).2.1 rfl);have xa:wB.heap[W.heap.size]?=wA.heap[W.heap.size]?:=dw.block W.heap.size (by omega) (λe=>(g9.out _ e.symm).2.2 rfl);replace b6:=(iQ (a:=⟨Bh,0,none⟩) sT).trans b6;replace f6:=(iQ (a:=⟨g,q * 8+6,none⟩) xb).trans f6;replace c1:=(iQ (a:=⟨W.heap.size,1,none⟩) xa).trans c1;replace c2:=(iQ (a:=⟨W.heap.size,2,none⟩) xa).trans c2;have ff:=(World.frozen?_of_block (a:=⟨g,q * 8+6,none⟩) xb).trans ffA;have H8:=jq (And.intro eV (And.intro dw iN));clear eV dw iN sT xb xa ffA;refine gl 16 (D:=[0,1,2,3,4,5,6,7,8,9,10,11,14,15,12,13]) (val:=gO g n cap q fA fn fc W.heap.size xf xt (.slice (some ⟨w9.heap.size,0,none⟩) 1 1) (.slice eA (fn+1) ec)) pq rJ (hH.next pq rJ hr) (by kernel_rfl) ?_ ?_
         ·intro i aR bS o ho a' hb aP;have k6':=aZJ hb iT.out;have k13':=aZJ hb qC.out;have k9':=aZJ hb lU.out;simp[Act.eval] at k6' k13' k9'
          repeat' (rcases aR with _ | ⟨_,aR⟩)
          all_goals first
           | (exfalso;simp at bS;done)
           | (cases ho
              try simp[Act.eval,Region.binds,gO,jX] at aP
              refine gv (by simp[Region.wanted]) ?_;simp[Oper.quietAt,Oper.quietUpon,execOp,go_sem,gO,k6',k13',k9',b6,f6,c1,c2,jT,gZ,aP])
         ·intro f listed a' hH hr hv;have av13:=hv 13;have av15:=hv 15;simp[Act.eval,gO,jX] at av13 av15;simp only[wpOp];simp[Region.wanted];refine .inl ?_;simp[Oper.wp,execOp,go_sem,av13,av15,f6,ff];refine tv hH hr HM.out pq (by kernel_rfl) λdZ=>?_
          ·rw[dZ,jA.out];simp[lp,Act.put,gO,jX];clear hv hH dZ;clear b6 f6 c1 c2 ff;obtain⟨W',hW'⟩:=acJ (wB.setCell ⟨g,q * 8+6,none⟩ (.slice eA (fn+1) ec));have vD:Hid (PubK S W₂ w6.heap.size z (λk=>M k\/(Value.slice eA (fn+1) ec).ownBlock=some k) (us.set q (x,tl ++ [⟨xf,xt⟩],.slice eA (fn+1) ec)) (.slice (some ⟨g,0,none⟩) n cap) W'):=jq (by rw[<-hW'];exact vI.out.changed cO.out HY.out H8.out.2.1 H8.out.1 H8.out.2.2);have iz:Hid (Below w6.heap.size w9 W'):=jq (by rw[<-hW'];exact ((dY.out.adZ).trans ((vQ _ _).grown H8.out.2.1 (by omega) (λk e=>(g9.out k e).1))).setCell (by dsimp only;omega) _);have Id:Hid ((us.set q (x,tl ++ [(⟨xf,xt⟩:Np.Span)],Value.slice eA (fn+1) ec)).map (·.1)=us.map (·.1)):=jq (Sm HY.out rfl);rw[hW'];have Fl:W'.heap.size=wB.heap.size:=by rw[<-hW'];simp[World.setCell]
           gi_wp2_with fail;go_roundw
           case measure=>simp[intOf] <;> omega
           case rel=>exact⟨j+1,_,_,_,by omega,by go_num,by omega,jq (a0J Dk.out iz.out),jq (a0J Gu.out iz.out),jq (by rw[Id.out];exact Dj.out.keep iz.out (by omega)),vD,jq ⟨.inl vM.out.1,.inl vM.out.2.1,.inl vM.out.2.2⟩,jq (jl.out _)⟩
      ·have er:(Np.oa (us.map (·.1))).lookup key=none:=by rw[<-mI];exact Np.agX MT.out DK.out hin
       rw[er] at jw;simp only[Option.getD_none,Option.isSome_none] at jw;have P9:x∉Np.cj ((psP PP ⟨xf,xt⟩ sets j).map (·.2)):=by rw[<-Fx lY.out];exact hin
       obtain⟨m,hm⟩:=acJ us.length;have oI:=jq hm;have qQ:Hid (m<=5000):=jq (by rw[<-hm];exact Nf.out);obtain⟨wU,rA,nY,cG⟩:=Sj (P:=prog) w9 213 9 3 underlying213 underlying9 (Bh+1+1) _ Gs.out key (.int .i64 ((m:Nat):Int)) er;obtain⟨oA,oc,rfl⟩:=rY.out.rows.row.formN hm;have b6:=Dl.out.cell;have jl:Hid (∀ v',((us ++ [((x,[],.slice none 0 0):PT)]).set m (x,[] ++ [⟨xf,xt⟩],v')).map (λx=>(x.1,x.2.1))=Np.fC (psP PP ⟨xf,xt⟩ sets (j+1))):=jq (λv'=>by rw[bC.out,<-hm];exact anQ lY.out P9 _ _ v');have Fm:wU.heap.size=w9.heap.size:=cG.size;have Mw:=jq (rY.out.touch dt.out.2.1 (.inl AR.out.2.2) (λe=>by have:=(rY.out.rows.lt e).1;omega) cG);have tC:Hid (Below X wr wU):=jq ((cR.out.adZ).trans (cG.below (by omega)));have yj:Hid (Boxed wU Bh 52 (.slice oA m oc)):=jq ((cG.block Bh (by omega)).trans Dl.out);have TF:Hid (Boxed wU (Bh+1) 4 (.bool true)):=jq ((cG.block (Bh+1) (by omega)).trans L7.out);have Tz:Hid (dG (Bh+1+1) (Np.oa ((us ++ [((x,[],.slice none 0 0):PT)]).map (·.1))) wU):=jq (by
        rw[List.map_append,List.map_cons,List.map_nil,Np.agY,mI,List.length_map,hm];exact nY)
       have TV:Hid (wU.heap[W.heap.size]?=W₂.heap[W.heap.size]?):=jq ((cG.block _ (by omega)).trans ((cR.out.block _ (by omega)).trans (Dw.out _ (by omega) Dq.out)));clear hin er P9 hm mI nY EM;gi_wp2_with fail;replace b6:=yj.out.cell;replace kz:=(iQ (a:=⟨X+1,0,none⟩) (cG.block (X+1) (by omega))).trans kz;replace p0:=(iQ (a:=⟨wr.heap.size,0,none⟩) (cG.block wr.heap.size (by omega))).trans p0;replace p1:=(iQ (a:=⟨wr.heap.size,1,none⟩) (cG.block wr.heap.size (by omega))).trans p1;replace p2:=(iQ (a:=⟨wr.heap.size,2,none⟩) (cG.block wr.heap.size (by omega))).trans p2;replace p3:=(iQ (a:=⟨wr.heap.size,3,none⟩) (cG.block wr.heap.size (by omega))).trans p3;replace p4:=(iQ (a:=⟨wr.heap.size,4,none⟩) (cG.block wr.heap.size (by omega))).trans p4;clear rA jw bx cG;refine Dc λa0 bw=>?_;have jA:=jq bw;have iT:=jq (show a0.eval (.tmp 6) = .pointer (some ⟨Bh,0,none⟩) by rw[bw];rfl);have m9:=jq (show a0.eval (.tmp 3) = .pointer (some ⟨X+1,0,none⟩) by rw[bw];rfl);have vj:=jq (show a0.eval (.tmp 11) = .pointer (some ⟨wr.heap.size,0,none⟩) by rw[bw];rfl);have HM:=jq (show a0.tmps.size=101 by rw[bw];rfl);clear bw;refine F8 (by kernel_rfl) (by kernel_rfl) (by rintro⟨_,_,h⟩;exact h) ?_;refine gl 3 (D:=[0,1,2]) (val:=ll oA m oc z ss x.set.type x.set.life dA dn dc gA gn gc undef undef undef) uU xV (rr HM.out) (by kernel_rfl) ?_ ?_
       ·intro i aR bS o ho a' hb aP;have k6':=aZJ hb iT.out;have k3':=aZJ hb m9.out;have k11':=aZJ hb vj.out;simp[Act.eval] at k6' k3' k11'
        repeat' (rcases aR with _ | ⟨_,aR⟩)
        all_goals first
         | (exfalso;simp at bS;done)
         | (cases ho
            try simp[Act.eval,Region.binds,ll,mW] at aP
            refine gv (by simp[Region.wanted]) ?_;simp[Oper.quietAt,Oper.quietUpon,execOp,go_sem,ll,k6',k3',k11',b6,kz,p0,p1,p2,p3,p4,zI,aP])
       ·intro f listed a' hH hr hv;have av2:=hv 2;simp[Act.eval,ll,mW] at av2;simp only[wpOp];simp[Region.wanted];refine .inl ?_;simp[Oper.wp,go_sem,av2];refine (Wu ss x.set.type x.set.life _ x.set.data _ x.sigs (by have:=kK.out.1;omega) (by have:=kK.out.2;omega) wU.drew (im.out wU.drew tC.out.drew) (nk.out wU.drew tC.out.drew)).mono ?_;rintro e wC ⟨dv2,gv2,rfl,l9,BU⟩;have kq:Below wU.heap.size wU wC:=(vQ wU.heap.size wU).drew.trans BU;have hzC:=kq.size;replace p0:=aaJ kq p0;replace p1:=aaJ kq p1;replace p2:=aaJ kq p2;replace p3:=aaJ kq p3;replace p4:=aaJ kq p4;replace b6:=aaJ kq b6;replace kz:=aaJ kq kz;have nh:Hid (LS wU.heap.size wC dv2 gv2 x.set.data x.sigs):=jq l9;obtain⟨dA2,dc2,rfl,_,_⟩:=ak ((l9 (λ_=>False) (λ_ e=>e.elim)).1);obtain⟨gA2,gc2,rfl,_,_⟩:=ak ((l9 (λ_=>False) (λ_ e=>e.elim)).2);rw[lV.out,T7.out] at nh |-;have Ui:=jq (Mw.out.keep kq);have Gq:=jq kq;clear l9 kq BU;dsimp only;refine gl 5 (D:=[0,1,2,4,3]) (val:=ll oA m oc z ss x.set.type x.set.life dA dn dc gA gn gc (.agg #[.string ss,.int .i64 x.set.type,.int .i64 x.set.life,.slice dA2 dn dc2,.slice gA2 gn gc2]) undef undef) uU xV (hH.next uU xV hr) (by kernel_rfl) ?_ ?_
        ·intro i aR bS o ho a' hb aP;have k6':=aZJ hb iT.out;have k3':=aZJ hb m9.out;have k11':=aZJ hb vj.out;simp[Act.eval] at k6' k3' k11'
         repeat' (rcases aR with _ | ⟨_,aR⟩)
         all_goals first
          | (exfalso;simp at bS;done)
          | (cases ho
             try simp[Act.eval,Region.binds,ll,mW] at aP
             refine gv (by simp[Region.wanted]) ?_;simp[Oper.quietAt,Oper.quietUpon,execOp,go_sem,ll,k6',k3',k11',b6,kz,p0,p1,p2,p3,p4,zI,aP])
        ·intro f listed a' hH hr hv;have av4:=hv 4;simp[Act.eval,ll,mW] at av4;simp only[wpOp];simp[Region.wanted];refine .inl ?_;simp[zI] at av4;simp[Oper.wp,execOp,go_sem,av4];obtain⟨wX,Fg⟩:=acY (wC.alloc (.cells #[.string z,.string ss,.int .i64 x.set.type,.int .i64 x.set.life,.slice dA2 dn dc2,.slice gA2 gn gc2,.slice none 0 0,.slice none 0 0] 57));rw[<-Fg];have dJ:Below wC.heap.size wC wX:=by rw[Fg];exact (vQ _ _).alloc (bQ _) _
         have Pj:eh wX wC.heap.size 0 [.string z,.string ss,.int .i64 x.set.type,.int .i64 x.set.life,.slice dA2 dn dc2,.slice gA2 gn gc2,.slice none 0 0,.slice none 0 0]:=λi v hi=>by
          rw[Fg]
          match i,hi with
          | 0,hi=>cases hi;simp[go_sem]
          | 1,hi=>cases hi;simp[go_sem]
          | 2,hi=>cases hi;simp[go_sem]
          | 3,hi=>cases hi;simp[go_sem]
          | 4,hi=>cases hi;simp[go_sem]
          | 5,hi=>cases hi;simp[go_sem]
          | 6,hi=>cases hi;simp[go_sem]
          | 7,hi=>cases hi;simp[go_sem]
          | i+8,hi=>simp at hi
         have hzX:=dJ.size;replace p0:=aaJ dJ p0;replace p1:=aaJ dJ p1;replace p2:=aaJ dJ p2;replace p3:=aaJ dJ p3;replace p4:=aaJ dJ p4;replace b6:=aaJ dJ b6;replace kz:=aaJ dJ kz;have iU:=jq Pj;have G4:=jq (Ui.out.keep dJ);have Gv:=jq dJ;have l3:Hid (q9 z (bF wX M) wX.heap.size [.string z,.string ss,.int .i64 x.set.type,.int .i64 x.set.life,.slice dA2 dn dc2,.slice gA2 gn gc2,.slice none 0 0,.slice none 0 0] (x,[],.slice none 0 0)):=jq (by
          have h1:=nh.out M (λk hk=>Mw.out.lt k hk);have h2:=(Leaves'.of_below (M:=M) dJ).slr bV C1 cu h1.1;have h3:=(Leaves'.of_below (M:=M) dJ).slr cg zJ cY h1.2;exact⟨ss,_,_,none,0,0,rfl,rfl,gR.out.1,gR.out.2,h2,h3⟩)
         clear Fg dJ Pj;refine gl 6 (D:=[0,1,2,4,3,5]) (val:=ll oA m oc z ss x.set.type x.set.life dA dn dc gA gn gc (.agg #[.string ss,.int .i64 x.set.type,.int .i64 x.set.life,.slice dA2 dn dc2,.slice gA2 gn gc2]) (.slice (some ⟨wC.heap.size,0,none⟩) 1 1) undef) uU xV (hH.next uU xV hr) (by kernel_rfl) ?_ ?_
         ·intro i aR bS o ho a' hb aP;have k6':=aZJ hb iT.out;have k3':=aZJ hb m9.out;have k11':=aZJ hb vj.out;simp[Act.eval] at k6' k3' k11'
          repeat' (rcases aR with _ | ⟨_,aR⟩)
          all_goals first
           | (exfalso;simp at bS;done)
           | (cases ho
              try simp[Act.eval,Region.binds,ll,mW] at aP
              refine gv (by simp[Region.wanted]) ?_;simp[Oper.quietAt,Oper.quietUpon,execOp,go_sem,ll,k6',k3',k11',b6,kz,p0,p1,p2,p3,p4,zI,aP])
         ·intro f listed a' hH hr hv;have av0:=hv 0;have av5:=hv 5;simp[ll,mW] at av0 av5;simp only[wpOp];simp[Region.wanted];refine .inl ?_;refine Ta (R:=q9 z) (M:=M) wX (.tmp 52) (.tmp 57) 52 rfl w6.heap.size za ih (.agg #[.string ⟨#[]⟩,.string ⟨#[]⟩,.int .i64 0,.int .i64 0,.slice none 0 0,.slice none 0 0,.slice none 0 0,.slice none 0 0]) 144 underlying52 Y2 YW YX YY rfl (by decide) (.slice oA m oc) us av0 G4.out.rows.row (some ⟨wC.heap.size,0,none⟩) 1 [(x,[],.slice none 0 0)] av5 (C4 rfl l3.out iU.out) (aGK z) (by rw[oI.out];have:=qQ.out;simp[maxLen];omega) (by rw[oI.out];have:=qQ.out;simp;omega) (by omega) (FO z) (FQ z) (FP z) ?_;intro v8 wY eV dw iN;obtain⟨A8,c8,rfl⟩:=eV.formN (n:=m+1) (by rw[List.length_append,oI.out];rfl);have hzY:=dw.size;have E1:∀ k,(Value.slice oA m oc).ownBlock=some k->w6.heap.size<=k/\k<wr.heap.size:=λk e=>by have h1:=ip.out.rows.row.lt k e;exact h1
          have zi:wY.heap[wr.heap.size]?=wX.heap[wr.heap.size]?:=dw.block _ (by omega) (λe=>by have:=(E1 _ e.symm).2;omega);have sT:wY.heap[Bh]?=wX.heap[Bh]?:=dw.block _ (by omega) (λe=>by have:=(E1 _ e.symm).1;omega);have PR:wY.heap[X+1]?=wX.heap[X+1]?:=dw.block _ (by omega) (λe=>by have:=(E1 _ e.symm).1;omega);replace p0:=(iQ (a:=⟨wr.heap.size,0,none⟩) zi).trans p0;replace p1:=(iQ (a:=⟨wr.heap.size,1,none⟩) zi).trans p1;replace p2:=(iQ (a:=⟨wr.heap.size,2,none⟩) zi).trans p2;replace p3:=(iQ (a:=⟨wr.heap.size,3,none⟩) zi).trans p3;replace p4:=(iQ (a:=⟨wr.heap.size,4,none⟩) zi).trans p4;replace b6:=(iQ (a:=⟨Bh,0,none⟩) sT).trans b6;replace kz:=(iQ (a:=⟨X+1,0,none⟩) PR).trans kz;have L5:Hid (Boxed wY Bh 52 (.slice oA m oc)):=jq (sT.trans ((Gv.out.block Bh (by omega)).trans ((Gq.out.block Bh (by omega)).trans yj.out)));have TW:Hid (wY.heap[W.heap.size]?=wU.heap[W.heap.size]?):=jq ((dw.block _ (by omega) (λe=>by
           rcases G4.out.own _ (.inl e.symm) with h1 | h1
           ·exact Dq.out h1
           ·omega)).trans ((Gv.out.block _ (by omega)).trans (Gq.out.block _ (by omega))))
          have TM:Hid (Below w6.heap.size wX wY):=jq ((vQ _ _).grown dw (by omega) (λk e=>(E1 k e).1));have iY:=jq (G4.out.push eV dw iN);clear eV dw iN zi sT PR;refine gl 7 (D:=[0,1,2,4,3,5,6]) (val:=ll oA m oc z ss x.set.type x.set.life dA dn dc gA gn gc (.agg #[.string ss,.int .i64 x.set.type,.int .i64 x.set.life,.slice dA2 dn dc2,.slice gA2 gn gc2]) (.slice (some ⟨wC.heap.size,0,none⟩) 1 1) (.slice A8 (m+1) c8)) uU xV (hH.next uU xV hr) (by kernel_rfl) ?_ ?_
          ·intro i aR bS o ho a' hb aP;have k6':=aZJ hb iT.out;have k3':=aZJ hb m9.out;have k11':=aZJ hb vj.out;simp[Act.eval] at k6' k3' k11'
           repeat' (rcases aR with _ | ⟨_,aR⟩)
           all_goals first
            | (exfalso;simp at bS;done)
            | (cases ho
               try simp[Act.eval,Region.binds,ll,mW] at aP
               refine gv (by simp[Region.wanted]) ?_;simp[Oper.quietAt,Oper.quietUpon,execOp,go_sem,ll,k6',k3',k11',b6,kz,p0,p1,p2,p3,p4,zI,aP])
          ·intro f listed a' hH hr hv;have av6:=hv 6;simp[Act.eval,ll,mW] at av6;simp only[wpOp];simp[Region.wanted];refine .inl ?_;have bf:=L5.out.frozen;have k6':=(aO hH.good.base (j:=6) (by decide) (by decide)).trans iT.out;simp[Act.eval] at k6';simp[Oper.wp,execOp,go_sem,av6,b6,bf,k6'];refine tv hH hr HM.out uU (by kernel_rfl) λdZ=>?_
           ·rw[dZ,jA.out];simp[lp,Act.put,ll,mW];clear hv hH dZ;clear p0 p1 p2 p3 p4 b6 kz bf;obtain⟨wZ,Fh⟩:=acJ (wY.setCell ⟨Bh,0,none⟩ (.slice A8 (m+1) c8));have tZ:Turned Bh wY wZ:=by rw[<-Fh];exact⟨rfl,rfl,rfl,by simp[World.setCell],λi hi=>wQ _ _ _ _ hi⟩
            have hzZ:wZ.heap.size=wY.heap.size:=tZ.size;have Dk:Hid (Boxed wZ Bh 52 (.slice A8 (m+1) c8)):=jq (by rw[<-Fh];exact L5.out.set _);have I7:Below w6.heap.size wU wY:=((Gq.out.adZ).trans (Gv.out.adZ)).trans TM.out;have Gu:Hid (Boxed wZ (Bh+1) 4 (.bool true)):=jq ((tZ.block (Bh+1) (by omega)).trans (a0J TF.out I7));have Dj:Hid (dG (Bh+1+1) (Np.oa ((us ++ [((x,[],.slice none 0 0):PT)]).map (·.1))) wZ):=jq ((Tz.out.keep I7 (by omega)).stays (tZ.block _ (by omega)));obtain⟨u1,uI⟩:=acJ (us ++ [((x,[],.slice none 0 0):PT)]);obtain⟨M1,Jg⟩:∃ M1:Nat->Prop,(λk=>M k\/(Value.slice A8 (m+1) c8).ownBlock=some k)=M1:=⟨_,rfl⟩;have rX:Hid (PubK S W₂ w6.heap.size z M1 u1 (.slice A8 (m+1) c8) wZ):=jq (by rw[<-uI,<-Jg];exact iY.out.touch (.inl dt.out.1) (.inl AR.out.1) (λe=>by have:=(iY.out.rows.lt e).1;omega) tZ);have vM:Hid (M1 Bh/\M1 (Bh+1+1)/\M1 (Bh+1)):=jq (by rw[<-Jg];exact⟨.inl dt.out.1,.inl dt.out.2.1,.inl dt.out.2.2⟩);rw[uI] at Dj jl;have HY:Hid (u1[m]?=some (x,[],.slice none 0 0)):=jq (by rw[<-uI,<-oI.out];simp);have cO:Hid (u1.length=m+1):=jq (by rw[<-uI,<-oI.out];simp);have vE:Hid (([]:List Np.Span).length=0):=jq rfl;have Ik:Hid (([]:List Np.Span).length<=5000):=jq (by simp);obtain⟨g,cap,PD,dL,JS,qh⟩:=rX.out.rows.row.formSome cO.out (by omega);simp only[Value.slice.injEq] at PD;obtain⟨rfl,-,rfl⟩:=PD;have g9:Hid (∀ k,(Value.slice none 0 0).ownBlock=some k->w6.heap.size<=k/\k≠g/\k≠W.heap.size):=jq (λk e=>by cases e);have JG:=((tZ.block _ (by omega)).trans (TW.out.trans TV.out)).trans jD.out;have b6:=Dk.out.cell;have f6:wZ.cell? ⟨g,m * 8+6,none⟩=some (.slice none 0 0):=JP rX.out.rows.row HY.out;have c1:wZ.cell? ⟨W.heap.size,1,none⟩=some (.int .i64 xf):=by simp[World.cell?,JG]
            have c2:wZ.cell? ⟨W.heap.size,2,none⟩=some (.int .i64 xt):=by simp[World.cell?,JG]
            have jT:(0:Int)<=(m:Int):=by omega
            have gZ:(m:Int)<(m:Int)+1:=by omega
            have sO:decide ((20000:Int)<(m:Int)+1)=false:=tQ (by have:=qQ.out;omega);have YV:decide (20000<m+1)=false:=tQ (by have:=qQ.out;omega);rw[Fh];have YU:W.heap.size<wZ.heap.size:=by omega
            clear JG qh I7 tZ Fh uI Jg;gi_wp2_with fail;refine Dc λa0 bw=>?_;have jA:=jq bw;have iT:=jq (show a0.eval (.tmp 6) = .pointer (some ⟨Bh,0,none⟩) by rw[bw];rfl);have qC:=jq (show a0.eval (.tmp 13) = .int .i64 (m:Nat) by rw[bw];rfl);have lU:=jq (show a0.eval (.tmp 9) = .pointer (some ⟨W.heap.size,0,none⟩) by rw[bw];rfl);have HM:=jq (show a0.tmps.size=101 by rw[bw];rfl);clear bw;refine F8 (by kernel_rfl) (by kernel_rfl) (by rintro⟨_,_,h⟩;exact h) ?_;refine gl 12 (D:=[0,1,2,3,4,5,6,7,8,9,10,11,14,15]) (val:=gO g (m+1) c8 m none 0 0 W.heap.size xf xt undef undef) pq rJ (rr HM.out) (by kernel_rfl) ?_ ?_
            ·intro i aR bS o ho a' hb aP;have k6':=aZJ hb iT.out;have k13':=aZJ hb qC.out;have k9':=aZJ hb lU.out;simp[Act.eval] at k6' k13' k9'
             repeat' (rcases aR with _ | ⟨_,aR⟩)
             all_goals first
              | (exfalso;simp at bS;done)
              | (cases ho
                 try simp[Act.eval,Region.binds,gO,jX] at aP
                 refine gv (by simp[Region.wanted]) ?_;simp[Oper.quietAt,Oper.quietUpon,execOp,go_sem,gO,k6',k13',k9',b6,f6,c1,c2,jT,gZ,aP])
            ·intro f listed a' hH hr hv;have av11:=hv 11;simp[Act.eval,gO,jX] at av11;simp only[wpOp];simp[Region.wanted];refine .inl ?_;simp[Oper.wp,execOp,go_sem,av11];obtain⟨wA,fz⟩:=acY ((wZ.alloc (.cells #[.int .i64 xf,.int .i64 xt] 110)).drew);rw[<-fz];have dI:Below wZ.heap.size wZ wA:=by rw[fz];exact ((vQ _ _).alloc (bQ _) _).drew
             have CR:wA.heap.size=wZ.heap.size+1:=by rw[fz];simp[World.drew]
             have tD:Hid (wA.cell? ⟨wZ.heap.size,0,none⟩=some (.int .i64 xf)/\wA.cell? ⟨wZ.heap.size,1,none⟩=some (.int .i64 xt)):=jq (by rw[fz];exact⟨by simp[go_sem],by simp[go_sem]⟩);replace b6:=aaJ dI b6;replace f6:=aaJ dI f6;replace c1:=aaJ dI c1;replace c2:=aaJ dI c2;have vI:=jq (rX.out.keep dI);have dY:=jq dI;clear fz dI;refine gl 13 (D:=[0,1,2,3,4,5,6,7,8,9,10,11,14,15,12]) (val:=gO g (m+1) c8 m none 0 0 W.heap.size xf xt (.slice (some ⟨wZ.heap.size,0,none⟩) 1 1) undef) pq rJ (hH.next pq rJ hr) (by kernel_rfl) ?_ ?_
             ·intro i aR bS o ho a' hb aP;have k6':=aZJ hb iT.out;have k13':=aZJ hb qC.out;have k9':=aZJ hb lU.out;simp[Act.eval] at k6' k13' k9'
              repeat' (rcases aR with _ | ⟨_,aR⟩)
              all_goals first
               | (exfalso;simp at bS;done)
               | (cases ho
                  try simp[Act.eval,Region.binds,gO,jX] at aP
                  refine gv (by simp[Region.wanted]) ?_;simp[Oper.quietAt,Oper.quietUpon,execOp,go_sem,gO,k6',k13',k9',b6,f6,c1,c2,jT,gZ,aP])
             ·intro f listed a' hH hr hv;have av6:=hv 6;have av12:=hv 12;simp[gO,jX] at av6 av12;simp only[wpOp];simp[Region.wanted];refine .inl ?_;refine LN wA (.tmp 68) (.tmp 74) rfl w6.heap.size (.slice none 0 0) [] av6 (vI.out.rows.fresh _ (gQ HY.out)) wZ.heap.size xf xt av12 tD.out.1 tD.out.2 (by have:=Ik.out;omega) (by omega) ?_;intro v8 wB eV dw iN;obtain⟨eA,ec,rfl⟩:=FA eV (n:=1) (by rw[List.length_append,vE.out];rfl);have Fk:=dw.size;have ffA:wA.frozen? ⟨g,m * 8+6,none⟩=false:=vI.out.rows.row.frozenAt cO.out _;have sT:wB.heap[Bh]?=wA.heap[Bh]?:=dw.block Bh (by omega) (λe=>by have:=(g9.out Bh e.symm).1;omega);have xb:wB.heap[g]?=wA.heap[g]?:=dw.block g (by omega) (λe=>(g9.out g e.symm).2.1 rfl);have xa:wB.heap[W.heap.size]?=wA.heap[W.heap.size]?:=dw.block W.heap.size (by omega) (λe=>(g9.out _ e.symm).2.2 rfl);replace b6:=(iQ (a:=⟨Bh,0,none⟩) sT).trans b6;replace f6:=(iQ (a:=⟨g,m * 8+6,none⟩) xb).trans f6;replace c1:=(iQ (a:=⟨W.heap.size,1,none⟩) xa).trans c1;replace c2:=(iQ (a:=⟨W.heap.size,2,none⟩) xa).trans c2;have ff:=(World.frozen?_of_block (a:=⟨g,m * 8+6,none⟩) xb).trans ffA;have H8:=jq (And.intro eV (And.intro dw iN));clear eV dw iN sT xb xa ffA;refine gl 16 (D:=[0,1,2,3,4,5,6,7,8,9,10,11,14,15,12,13]) (val:=gO g (m+1) c8 m none 0 0 W.heap.size xf xt (.slice (some ⟨wZ.heap.size,0,none⟩) 1 1) (.slice eA 1 ec)) pq rJ (hH.next pq rJ hr) (by kernel_rfl) ?_ ?_
              ·intro i aR bS o ho a' hb aP;have k6':=aZJ hb iT.out;have k13':=aZJ hb qC.out;have k9':=aZJ hb lU.out;simp[Act.eval] at k6' k13' k9'
               repeat' (rcases aR with _ | ⟨_,aR⟩)
               all_goals first
                | (exfalso;simp at bS;done)
                | (cases ho
                   try simp[Act.eval,Region.binds,gO,jX] at aP
                   refine gv (by simp[Region.wanted]) ?_;simp[Oper.quietAt,Oper.quietUpon,execOp,go_sem,gO,k6',k13',k9',b6,f6,c1,c2,jT,gZ,aP])
              ·intro f listed a' hH hr hv;have av13:=hv 13;have av15:=hv 15;simp[Act.eval,gO,jX] at av13 av15;simp only[wpOp];simp[Region.wanted];refine .inl ?_;simp[Oper.wp,execOp,go_sem,av13,av15,f6,ff];refine tv hH hr HM.out pq (by kernel_rfl) λdZ=>?_
               ·rw[dZ,jA.out];simp[lp,Act.put,gO,jX];clear hv hH dZ;clear b6 f6 c1 c2 ff;obtain⟨W',hW'⟩:=acJ (wB.setCell ⟨g,m * 8+6,none⟩ (.slice eA 1 ec));have vD:Hid (PubK S W₂ w6.heap.size z (λk=>M1 k\/(Value.slice eA 1 ec).ownBlock=some k) (u1.set m (x,[] ++ [⟨xf,xt⟩],.slice eA 1 ec)) (.slice (some ⟨g,0,none⟩) (m+1) c8) W'):=jq (by rw[<-hW'];exact vI.out.changed cO.out HY.out H8.out.2.1 H8.out.1 H8.out.2.2);have iz:Hid (Below w6.heap.size wZ W'):=jq (by rw[<-hW'];exact ((dY.out.adZ).trans ((vQ _ _).grown H8.out.2.1 (by omega) (λk e=>(g9.out k e).1))).setCell (by dsimp only;omega) _);have Id:Hid ((u1.set m (x,[] ++ [(⟨xf,xt⟩:Np.Span)],Value.slice eA 1 ec)).map (·.1)=u1.map (·.1)):=jq (Sm HY.out rfl);rw[hW'];have Fl:W'.heap.size=wB.heap.size:=by rw[<-hW'];simp[World.setCell]
                gi_wp2_with fail;go_roundw
                case measure=>simp[intOf] <;> omega
                case rel=>exact⟨j+1,_,_,_,by omega,by go_num,by omega,jq (a0J Dk.out iz.out),jq (a0J Gu.out iz.out),jq (by rw[Id.out];exact Dj.out.keep iz.out (by omega)),vD,jq ⟨.inl vM.out.1,.inl vM.out.2.1,.inl vM.out.2.2⟩,jq (jl.out _)⟩
     ·obtain rfl:j=xn:=by omega
      obtain⟨OY,OZ⟩:=ip.out.stop;have AO:=jq OY;have AP:=jq OZ;have UT:Hid (RdStep (λk=>k=Bh\/k=Bh+1\/k=Bh+1+1) w6 wr):=jq (qY.out.trans ip.out.rd (λk e=>by have:=ft.out k e;omega));clear OY OZ;gi_wp2_with fail;refine⟨λk=>S k\/(W₂.heap.size<=k/\k<wr.heap.size),ip.out.rd.mono (λk e=>.inl e),λk e=>?_,λk e=>?_,us,ov,_,.inl AR.out.1,.inl AR.out.2.1,.inl AR.out.2.2,AP.out,λk e=>?_,λk e=>.inr e,.inl dt.out.1,.inl dt.out.2.2,.inl dt.out.2.1,yk.out,?_,L3.out,AO.out,?_,UT.out⟩
      ·rcases e with e | e
       ·exact .inl (.inl e)
       ·exact .inr e.1
      ·rcases e with e | e
       ·have:=U0.out k e;omega
       ·exact e.2
      ·rcases e with e | e
       ·exact ft.out k e
       ·right;right;right;omega
      ·have e:(!(pre ++ [((⟨xh,xf,xt,xs,xA,j,xc⟩,cc):CV×Np.Copy)]).isEmpty)=true:=by simp
       rw[e];exact L8.out
      ·rw[qD.out,<-atZ Bb.out];exact lY.out
end
section
open Go.RowKit
noncomputable def Np.rK(h:Np.Hist)(z:List UInt8):Int×List Np.Held:=if Np.yes (Np.vY h z) then (if Np.yes (Np.yL h z) then (0,Np.pub h.copies z) else (4,[])) else (1,[])
noncomputable def Np.yd(h:Np.Hist):Int×List (List UInt8):=if Np.yes (Np.VHist h) then (0,Np.apexes h.copies) else (1,[])
theorem Np.avZ{h:Np.Hist}{z:List UInt8}(k:¬ Np.vY h z):Np.rK h z=(1,[]):=by unfold Np.rK;rw[Np.aF k];rfl
theorem Np.avJ{h:Np.Hist}{z:List UInt8}(k:Np.vY h z)(k2:¬ Np.yL h z):Np.rK h z=(4,[]):=by unfold Np.rK;rw[Np.bh k,Np.aF k2];rfl
theorem Np.RJ{h:Np.Hist}{z:List UInt8}(k:Np.vY h z)(k2:Np.yL h z):Np.rK h z=(0,Np.pub h.copies z):=by unfold Np.rK;rw[Np.bh k,Np.bh k2];rfl
theorem Np.Ti{h:Np.Hist}(k:Np.VHist h):Np.yd h=(0,Np.apexes h.copies):=by unfold Np.yd;rw[Np.bh k];rfl
theorem Np.Th{h:Np.Hist}(k:¬ Np.VHist h):Np.yd h=(1,[]):=by unfold Np.yd;rw[Np.aF k];rfl
structure iW(w:World)(e:List Value)(h:Np.Hist):Prop where
 rh:gC w w.heap.size e h
 use:Np.Use h
 sums:Np.lG h
theorem iW.keep{w w':World}{e:List Value}{h:Np.Hist}(k:iW w e h)(hb:Below w.heap.size w w'):iW w' e h:=
 ⟨pu _ _ _ _ _ (mX _ _ _ _ _ k.rh hb) hb.size,k.use,k.sums⟩
structure jF(n:Nat)(w:World):Prop where
 rules:jo w n
 pow:go w
 lt:1<n
theorem jF.keep{n:Nat}{w w':World}(k:jF n w)(hb:Below n w w'):jF n w':=⟨k.rules.keep hb,k.pow.keepAt hb k.lt,k.lt⟩
theorem jF.more{n m:Nat}{w:World}(k:jF n w)(h:n<=m):jF m w:=⟨k.rules.more h,k.pow,lQ k.lt h⟩
theorem jF.next{w w':World}(k:jF w.heap.size w)(hb:Below w.heap.size w w'):jF w'.heap.size w':=(k.keep hb).more hb.size
theorem VO{h:Np.Hist}(v:Np.VHist h):∀ x∈Np.apexes h.copies,x.length<=140737488355328:=λx hx=>by
 obtain⟨c,hc,rfl⟩:=Np.zF.1 hx;have h1:=(Np.zT (v.each c hc).zone).1
 have:=(Np.tj h1).1
 omega
theorem IJ(l:List Np.Copy):(Np.apexes l).length<=l.length:=by
 unfold Np.apexes;rw[(Np.FY _).length_eq]
 have:=Np.tr (l.map (·.zone.apex))
 rwa [List.length_map] at this
theorem aJ.around{base n:Nat}{w:World}{v:Value}{ps:List Np.Span}(h:aJ base w v ps)(hn:n<=base)(hl:ps.length<=140737488355328):il cT 2 0 n w v ps:=λM hM=>by
 have h1:aJ base (bF w M) v ps:=gN h (λg hg=>kF (λe=>by have:=hM g e;have:=(World.ownsRow.lt h g hg).1;omega));have h2:=h1.slr hl;rwa [j6] at h2
theorem cF.around{base n:Nat}{w:World}{v:Value}{ps:List (List UInt8)}(h:cF base w v ps)(hn:n<=base)(hl:ps.length<=140737488355328)(hs:∀ x∈ps,x.length<=140737488355328):il RTx 1 0 n w v ps:=λM hM=>by
 have h1:cF base (bF w M) v ps:=gN h (λg hg=>kF (λe=>by have:=hM g e;have:=(World.ownsRow.lt h g hg).1;omega));have h2:=h1.slr hl hs;rwa [j6] at h2
structure WAt(n:Nat)(w:World)(e:List Value)(x:Np.WorldP)(A1:Option Addr)(n1 c1:Nat)(A2:Option Addr)(n2 c2:Nat)(s:ByteArray)(ty lf:Int)(A3:Option Addr)(n3 c3:Nat)(A4:Option Addr)(n4 c4:Nat):Prop where
 val:e = [.slice A1 n1 c1,.slice A2 n2 c2,.string s,.int .i64 ty,.int .i64 lf,.slice A3 n3 c3,.slice A4 n4 c4]
 all:IC w w.heap.size e x
 zones:il vZ 3 0 n w (.slice A2 n2 c2) x.zones
 len:x.zones.length=n2
theorem WAt.keep{n:Nat}{w w':World}{e:List Value}{x:Np.WorldP}{A1:Option Addr}{n1 c1:Nat}{A2:Option Addr}{n2 c2:Nat}{s:ByteArray}{ty lf:Int}{A3:Option Addr}{n3 c3:Nat}{A4:Option Addr}{n4 c4:Nat}(h:WAt n w e x A1 n1 c1 A2 n2 c2 s ty lf A3 n3 c3 A4 n4 c4)(hb:Below w.heap.size w w'):WAt n w' e x A1 n1 c1 A2 n2 c2 s ty lf A3 n3 c3 A4 n4 c4:=
 ⟨h.val,aIY _ _ _ _ _ (aIX _ _ _ _ _ h.all hb) hb.size,h.zones.keep FN Ld hb,h.len⟩
theorem cPub(e:List Value)(h:Np.Hist)(z:ByteArray)(hz:z.size<=140737488355328)(w:World)(hV:jF w.heap.size w)(k:iW w e h) :
 Calls prog 61 #[.agg e.toArray,.string z] w λe w'=>∃ A n c,e = .returned (.tuple #[.slice A n c,.int .i64 (Np.rK h z.data.toList).1])/\(Np.rK h z.data.toList).2.length=n/\il db 8 0 w.heap.size w' (.slice A n c) (Np.rK h z.data.toList).2/\Below w.heap.size w w':=
 (awZ e h k.use.fewH k.sums z hz (k.use.pairs _) w hV.rules hV.pow k.rh).mono λe w' ⟨h1,h2⟩=>by
   rcases h1 with ⟨n1,rfl⟩ | ⟨n1,⟨n2,rfl⟩ | ⟨n2,v',rfl,h3⟩⟩
   ·rw[Np.avZ n1];exact⟨_,_,_,rfl,rfl,il.nil _ _ _ _,h2⟩
   ·rw[Np.avJ n1 n2];exact⟨_,_,_,rfl,rfl,il.nil _ _ _ _,h2⟩
   ·rw[Np.RJ n1 n2];obtain⟨A,c,rfl⟩:=h3.form;exact⟨_,_,_,rfl,rfl,h3,h2⟩
theorem cZon(e:List Value)(h:Np.Hist)(w:World)(hV:jF w.heap.size w)(k:iW w e h) :
 Calls prog 60 #[.agg e.toArray] w λe w'=>∃ A n c,e = .returned (.tuple #[.slice A n c,.int .i64 (Np.yd h).1])/\(Np.yd h).2.length=n/\il RTx 1 0 w.heap.size w' (.slice A n c) (Np.yd h).2/\Below w.heap.size w w':=
 (aYJ e h k.use.fewH w hV.rules k.rh).mono λe w' ⟨h1,h2⟩=>by
   rcases h1 with ⟨n1,v',rfl,h3⟩ | ⟨n1,rfl⟩
   ·rw[Np.Ti n1];have h4:=h3.around (bQ _) (by have h4:=IJ h.copies;have h5:=k.use.copies;omega) (VO n1);obtain⟨A,c,rfl⟩:=h4.form;exact⟨_,_,_,rfl,rfl,h4,h2⟩
   ·rw[Np.Th n1];exact⟨_,_,_,rfl,rfl,il.nil _ _ _ _,h2⟩
theorem NZ(e:List Value)(h:Np.Hist)(w:World)(hV:jF w.heap.size w)(k:iW w e h) :
 Calls prog 56 #[.agg e.toArray] w (a0X w.heap.size w (.bool (Np.yes (Np.VHist h)))):=
 PL e h k.use.fewH w hV.rules k.rh
theorem IP(e:List Value)(h:Np.Hist)(w:World)(k:iW w e h) :
 Calls prog 44 #[.agg e.toArray] w (a0X w.heap.size w (.bool (Np.yes (Np.VHist h)))):=
 aCZ e h k.use.fewH w k.rh
theorem tm{w:World}{B:Nat}{e:List Value}{h:Np.Hist}(k:gC w B e h):∃ A1 n1 c1 A2 n2 c2 s ty lf A3 n3 c3 A4 n4 c4 dr st,e = [.slice A1 n1 c1,.slice A2 n2 c2,.string s,.int .i64 ty,.int .i64 lf,.slice A3 n3 c3,.slice A4 n4 c4,.int .i64 dr,.int .i64 st]/\h.hosts.length=n1/\h.copies.length=n2/\h.stop=st/\SlR kS 3 w B (.slice A1 n1 c1) h.hosts/\SlR my 5 w B (.slice A2 n2 c2) h.copies:=by
 obtain⟨hv,cv,s,dv,dU,rfl,_,_,h3,h4,h5,h6⟩:=k;obtain⟨A1,c1,rfl,_⟩:=ak h3;obtain⟨A2,c2,rfl,_⟩:=ak h4;obtain⟨A3,c3,rfl,_⟩:=ak h5;obtain⟨A4,c4,rfl,_⟩:=ak h6;exact⟨A1,_,c1,A2,_,c2,s,_,_,A3,_,c3,A4,_,c4,_,_,rfl,rfl,rfl,rfl,h3,h4⟩
theorem aGX:iJ RTx:=λ_ _ _ _ _ _ _ h=>h
theorem om{α:Type}{R:a1Z α}{sz:Nat}{w:World}{B:Nat}{v:Value}{xs:List α}(h:SlR R sz w B v xs):∃ A n c,v = .slice A n c:=by
 obtain⟨A,c,rfl,_⟩:=ak h;exact⟨_,_,_,rfl⟩
theorem Np.aYQ{z:Np.Zone}(v:Np.VZone z){x:Np.Signed}(hx:x∈z.sets):Np.UseB x:=by
 obtain⟨_,hv⟩:=Np.zT v;obtain⟨_,_,_,h4,h5,_⟩:=Np.tu (hv x hx);refine⟨by omega,λg r hg=>?_⟩
 have:=((v.form x hx).2 0 g (by rw[hg];rfl)).win
 omega
theorem Np.awQ{h:Np.Hist}(v:Np.VHist h){z:List UInt8}{x:Np.Held}(hx:x∈Np.pub h.copies z):Np.UseB x.signed:=by
 obtain⟨_,_,_,⟨c,hc,_,h1⟩,_⟩:=Np.KW v.full hx;exact Np.aYQ (v.each c hc).zone h1
theorem Np.avY{h:Np.Hist}(v:Np.VHist h){z:List UInt8}{x:Np.Held}(hx:x∈Np.pub h.copies z):∀ s∈x.fresh,0<=s.frm/\s.frm<s.til/\s.til<=10000000:=λs hs=>by
 obtain⟨_,_,m3,_,m5⟩:=Np.KW v.full hx;have hf:=m3.full s hs;obtain⟨c,hc,_,_,k1,_⟩:=(m5 s.frm).1 ⟨s,hs,Int.le_refl _,hf⟩;obtain⟨d,hd,_,_,_,k2⟩:=(m5 (s.til - 1)).1 ⟨s,hs,by omega,by omega⟩;have e1:=(v.each c hc).times;have e2:=(v.each d hd).times;have e3:=v.stop;omega
theorem Np.RF{h:Np.Hist}(v:Np.VHist h)(u:Np.Use h){x:Np.Held}(hx:x∈Np.pubAll h):Np.UseB x.signed/\(∀ s∈x.fresh,0<=s.frm/\s.frm<s.til/\s.til<=10000000)/\x.fresh.length<=20000:=by
 obtain⟨z,_,hz⟩:=Np.KX.1 hx;refine⟨Np.awQ v hz,Np.avY v hz,?_⟩;have hp:=u.pairs z;unfold Np.pub Np.me at hz;obtain⟨s,_,rfl⟩:=List.mem_map.1 hz;exact yQ (rG _) (yQ (Lw _ _) (by omega))
theorem Np.Use.pubTo{h:Np.Hist}(u:Np.Use h)(k:Nat):(Np.pubTo h k).length<=2100:=Np.RH (λc hc=>(u.each c hc).1) u.copies k
theorem Np.Use.pubAll{h:Np.Hist}(u:Np.Use h):(Np.pubAll h).length<=2100:=Np.auX (λc hc=>(u.each c hc).1) u.copies
theorem Br(e:List Value)(h:Np.Hist)(w:World)(hV:jF w.heap.size w)(k:iW w e h) :
 Calls prog 19 #[.agg e.toArray] w λe w'=>∃ A n c,e = .returned (.tuple #[.slice A n c,.int .i64 (Np.nF h).1])/\(Np.nF h).2.length=n/\il db 8 0 w.heap.size w' (.slice A n c) (Np.nF h).2/\Below w.heap.size w w':=by
 obtain⟨A1,n1,c1,A2,n2,c2,s,ty,lf,A3,n3,c3,A4,n4,c4,dr,st,rfl,-,-,aB,Cd,BZ⟩:=tm k.rh;have Aj:Hid (h.drift=dr):=jq (by
  obtain⟨hv,cv,s',dv,dU,he,_⟩:=k.rh;simp only[List.cons.injEq,Value.int.injEq,true_and,and_true] at he;exact he.2.2.2.2.2.2.2.1.symm)
 have oN:=jq hV;have HI0:=jq k;obtain⟨X,hX⟩:=acJ w.heap.size;obtain⟨w1,ah⟩:=acJ (w.alloc (.cells #[.slice A1 n1 c1,.slice A2 n2 c2,.string s,.int .i64 ty,.int .i64 lf,.slice A3 n3 c3,.slice A4 n4 c4,.int .i64 dr,.int .i64 st] 29));have bd:w1.heap.size=X+1:=by rw[<-ah,<-hX];simp
 have hb:Below w.heap.size w w1:=by rw[<-ah];exact (vQ _ _).alloc (bQ _) _
 have aG:=jq hb;have fN:=jq (hV.next hb);have fM:=jq (k.keep hb);have az:=jq (iq _ _ hX ah);clear hb hV k aB Cd BZ;have k0:=az.out 0 _ rfl;have k1:=az.out 1 _ rfl;have k2:=az.out 2 _ rfl;have k3:=az.out 3 _ rfl;have k4:=az.out 4 _ rfl;have k5:=az.out 5 _ rfl;have k6:=az.out 6 _ rfl;have k7:=az.out 7 _ rfl;have k8:=az.out 8 _ rfl;obtain⟨ax,nL⟩:=acJ (Np.nF h);rw[nL];have jB:=jq nL;clear nL;go_enter func19,ntmps19;go_wp2_with fail;clear ah;refine (cZon _ h w1 fN.out fM.out).mono ?_;rintro e w2 ⟨Az,nz,cz,rfl,PZ,fy,hb⟩;have ai:=jq (aG.out.trans (hb.mono aG.out.size));have iH:=jq (fN.out.next hb);have iV:=jq (fM.out.keep hb);have aZ:=jq (az.out.keep hb (by omega));have aN:=hb.size;have ja:=jq (fy.all aGX);have My:=jq PZ;clear hb fy PZ k0 k1 k2 k3 k4 k5 k6 k7 k8;by_cases cK:Np.VHist h
 case neg=>
  rw[Np.Th cK];have HN:=jq cK;clear cK;go_wp2_with fail;refine bodyPost_ret (v:=.tuple #[.slice none 0 0,.int .i64 1]) (by simp[results,results19,go_sem]) rfl ?_;rw[<-jB.out,Np.IH HN.out];exact⟨_,_,_,rfl,rfl,il.nil _ _ _ _,ai.out⟩
 case pos=>
  have fu:=jq cK;rw[Np.Ti cK] at ja My |-;have Tn:=jq (jB.out.symm.trans (Np.we cK));have M3:Hid (SlR RTx 1 w2 w2.heap.size (.slice Az nz cz) (Np.apexes h.copies)):=jq ja.out;have G6:Hid ((Np.apexes h.copies).length=nz):=jq My.out;have GG:Hid (0<=dr/\dr<=1000):=jq (by rw[<-Aj.out];exact cK.drift);clear cK;obtain⟨B,hB⟩:=acJ w2.heap.size;have O1:X<B:=by omega
  obtain⟨i0,la,fk,KE,Fj⟩:=info_parts Tryz.infoHeldA;have sL:nz<=cz:=by
   obtain⟨A',c',h1,h2,_⟩:=ak M3.out;simp only[Value.slice.injEq] at h1;omega
  have ju:nz<=1000:=by
   have h1:=G6.out;have h2:=IJ h.copies;have h3:=iV.out.use.copies;omega
  go_wp2_with fail;go_loopw [6,23] (λvo i wr=>∃ (k m:Nat) (A:Option Addr) (c:Nat) (M:Nat->Prop),k<=nz/\i = .int .i64 k/\vo = .slice A m c/\(Np.pubTo h k).length=m/\Hid ((∀ j,j<X->M j)/\∀ j,M j->(j<X\/B<=j)/\j<wr.heap.size)/\Hid (br db 8 57 B M wr (.slice A m c) (Np.pubTo h k))/\Hid (Below B w2 wr)) (λ_ i _=>nz - (intOf i).toNat)
  case atStart=>exact⟨0,0,none,0,λj=>j<X,jQ _,rfl,rfl,rfl,jq ⟨λ_ h=>h,λj h=>⟨.inl h,by omega⟩⟩,jq (br.nil _),jq (vQ _ _)⟩
  case round=>
   obtain⟨k,m,A,c,M,hk,rfl,rfl,hm,HM,HO,HB⟩:=hrel;have an:=HB.out.size;have jt:m<=2100:=by rw[<-hm];exact iV.out.use.pubTo k
   have dt:=jq hm;clear hm;by_cases ab:k<nz
   ·obtain⟨z,aa⟩:∃ z,(Np.apexes h.copies)[k]?=some z:=⟨_,aQ (by have:=G6.out;omega)⟩;have cx:=M3.out.later mY Le (show Below w2.heap.size w2 wr by rw[hB];exact HB.out);obtain⟨b,o,zs,rfl,bB,fV,gL,e0⟩:=qz cx aa;have tS:=jq fV;have DQ:=jq (Np.zF.1 (gQ aa));have vO:=jq (Np.RI aa);have Vd:=jq (iH.out.next (show Below w2.heap.size w2 wr by rw[hB];exact HB.out));have Uh:=jq (iV.out.keep (show Below w2.heap.size w2 wr by rw[hB];exact HB.out));have ek:=jq (aZ.out.keep HB.out (by omega));have k0:=ek.out 0 _ rfl;have k1:=ek.out 1 _ rfl;have k2:=ek.out 2 _ rfl;have k3:=ek.out 3 _ rfl;have k4:=ek.out 4 _ rfl;have k5:=ek.out 5 _ rfl;have k6:=ek.out 6 _ rfl;have k7:=ek.out 7 _ rfl;have k8:=ek.out 8 _ rfl;have bJ:(0:Int)<=(k:Int):=by omega
    have bI:(k:Int)<(nz:Int):=by omega
    clear cx aa fV;go_wp2_with fail;refine (cPub _ h zs gL wr Vd.out Uh.out).mono ?_;rw[tS.out];rintro e w3 ⟨Ap,np,cp,rfl,Co,E9,hb⟩;have ba:Np.rK h z=(0,Np.pub h.copies z):=Np.RJ ⟨fu.out,by
     obtain⟨c',hc',rfl⟩:=DQ.out;exact (Np.zT (fu.out.each c' hc').zone).1⟩ DQ.out
    rw[ba] at Co E9 |-;dsimp only at Co E9;have pJ:=jq Co;have l3:Hid (yM db 8 M w3 Ap (Np.pub h.copies z)):=jq (aGJ (E9 M (λj hj=>⟨jQ _,(HM.out.2 j hj).2⟩)) (by decide));have iD:=jq (HO.out.keep eY fp eZ hb);have ar:=acZ HB hb;have eR:=hb.size;have Zn:m+np<=2100:=by
     have h1:=iV.out.use.pubTo (k+1);rw[vO.out,List.length_append,dt.out,Co] at h1;exact h1
    have iE:=jq (HO.out.lt);clear hb Co E9 ba k0 k1 k2 k3 k4 k5 k6 k7 k8 e0;go_wp2_with (at_builtin;refine Dd (R:=db) (M:=M) w3 rfl _ _ 52 rfl B 57 i0 (.agg #[.string ⟨#[]⟩,.string ⟨#[]⟩,.int .i64 0,.int .i64 0,.slice none 0 0,.slice none 0 0,.slice none 0 0,.slice none 0 0]) 144 underlying52 la fk KE Fj rfl (by decide) (.slice A m c) (Np.pubTo h k) rfl iD.out Ap cp (Np.pub h.copies z) (by rw[pJ.out];rfl) l3.out Lc (by rw[dt.out,pJ.out];unfold maxLen;omega) (by rw[dt.out,pJ.out];omega) (by omega) eY fp eZ ?_;intro v8 w8 eV dw iN;obtain⟨A8,c8,rfl⟩:=br.formN eV (n:=m+np) (by rw[List.length_append,dt.out,pJ.out]);have H8:=jq (And.intro eV (And.intro dw iN));clear eV dw iN);have sO:decide ((20000:Int)<((m+np:Nat):Int))=false:=adJ;have n7:=H8.out.2.1.size;go_wp2_with fail;go_roundw
    case rel=>
     refine⟨k+1,m+np,A8,c8,_,by omega,by go_num,rfl,by rw[vO.out,List.length_append,dt.out,pJ.out],jq ⟨λj hj=>Or.inl (HM.out.1 j hj),λj hj=>?_⟩,jq (by rw[vO.out];exact H8.out.1),jq (ar.out.trans ((vQ _ _).grown H8.out.2.1 (by omega) (λg hg=>(iE.out g hg).1)))⟩;rcases hj with hj | hj
     ·have:=HM.out.2 j hj
      omega
     ·have:=H8.out.1.lt j hj
      omega
    case measure=>simp[intOf] <;> omega
   ·have Hw:Hid (Np.pubTo h k=Np.pubAll h):=jq (Np.K2 (by have:=G6.out;omega));rw[Hw.out] at HO dt;go_wp2_with fail;clear ab hk;obtain⟨w4,rfl⟩:=acY wr;go_loopw [45] (λi wr=>∃ (k:Nat),k<=m/\i = .int .i64 k/\w4.heap.size<=wr.heap.size/\Hid (br db 8 57 B M wr (.slice A m c) (Np.oW dr (Np.pubAll h) k))/\Hid (Below B w2 wr)) (λi _=>m - (intOf i).toNat)
    case atStart=>exact⟨0,jQ _,rfl,bQ _,HO,HB⟩
    case round=>
     obtain⟨k,hk,rfl,Kf,eS,HC⟩:=hrel;have li:=HC.out.size;have qN:Hid ((Np.oW dr (Np.pubAll h) k).length=m):=jq (by rw[Np.VC];exact dt.out);by_cases ab:k<m
     ·obtain⟨x,aa⟩:∃ x,(Np.pubAll h)[k]?=some x:=⟨_,aQ (by rw[dt.out];exact ab)⟩;obtain⟨g,cap,hA,I8,JS,hMg⟩:=eS.out.formSome qN.out (by omega);simp only[Value.slice.injEq,true_and] at hA;obtain⟨rfl,rfl⟩:=hA;obtain⟨b,o,zs,sn,dv,sv,fv,pv,qf,bB,fV,aw,aK,aS,jg,jj,e0,e1,e2,e3,e4,e5,e6,e7⟩:=wM (eS.out.slr fp (by rw[qN.out];omega)) (Np.NK aa);simp only[Option.some.injEq,Addr.mk.injEq,and_true] at qf;obtain⟨rfl,rfl⟩:=qf;obtain⟨dA,dn,dc,rfl⟩:=om aK;obtain⟨gA,gn,gc,rfl⟩:=om aS;obtain⟨fA,fn,fc,rfl⟩:=om jg;obtain⟨pA,pn,pc,rfl⟩:=om jj;have pR:=jq aS;have vF:=jq jg;have nv:=jq (Np.RF fu.out iV.out.use (gQ aa));have HAT:=jq (Np.NK (d:=dr) aa);have bC:=jq (Np.VD (d:=dr) aa);obtain⟨w5,aX⟩:=acJ (wr.alloc (.cells #[.string zs,.string sn,.int .i64 x.signed.set.type,.int .i64 x.signed.set.life,.slice dA dn dc,.slice gA gn gc,.slice fA fn fc,.slice pA pn pc] 57));have aH:Below wr.heap.size wr w5:=by rw[<-aX];exact (vQ _ _).alloc (bQ _) _
      have ik:wr.heap.size<w5.heap.size:=by rw[<-aX];simp
      have kf:=jq (iq _ _ rfl aX);have bN:=jq aH;have fX:=acZ HC aH;have k7:=(aZ.out.keep fX.out (by omega)) 7 _ rfl;have bJ:(0:Int)<=(k:Int):=by omega
      have bI:(k:Int)<(m:Int):=by omega
      have E7:Hid (wr.cell? ⟨g,k * 8+7,none⟩=some (.slice pA pn pc)):=jq (by simpa using e7);simp only[Nat.zero_add] at e0 e1 e2 e3 e4 e5 e6 e7;have d0:=kf.out 0 _ rfl;have d1:=kf.out 1 _ rfl;have d2:=kf.out 2 _ rfl;have d3:=kf.out 3 _ rfl;have d4:=kf.out 4 _ rfl;have d5:=kf.out 5 _ rfl;have d6:=kf.out 6 _ rfl;have d7:=kf.out 7 _ rfl;clear aa fV aw aK aS jg jj aH;go_wp2_with fail;clear aX e0 e1 e2 e3 e4 e5 e6 e7 d0 d1 d2 d3 d4 d5 d6 d7;refine (aRZ x nv.out.1 dr GG.out nv.out.2.1 nv.out.2.2 zs sn dA gA fA pA dn dc gn gc fn fc pn pc w5 (pR.out.later cg cY bN.out) (vF.out.later eE jk bN.out)).mono ?_;rintro e w6 ⟨v6,rfl,ix,hb⟩;obtain⟨A6,c6,rfl⟩:=ix.form;obtain⟨n6,xg⟩:=acJ ((Np.ka x dr).length);rw[xg] at ix |-;have qV:=jq ix;have iy:=hb.size;have iz:=acZ bN hb;have ML:=jq (eS.out.keep eY fp eZ iz.out);have q7:=aaJ iz.out E7.out;have z7:=ML.out.frozenAt qN.out (k * 8+7);have AG:=jq xg;clear ix hb k7 xg;go_wp2_with fail;go_roundw
      case rel=>
       refine⟨k+1,by omega,by go_num,by simp[World.setCell];omega,jq ?_,jq ((HC.out.trans (iz.out.adZ)).setCell (by dsimp only;omega) _)⟩;rw[<-bC.out];have zw:SlR cT 2 (bF w6 M) w6.heap.size (.slice A6 n6 c6) (Np.ka x dr):=(qV.out.around (n:=w5.heap.size) (bQ _) (by rw[AG.out];have:=rG (x.fresh.map (Np.gi x.signed dr));have h2:=AG.out;unfold Np.ka at h2;rw[List.length_map] at this;have:=nv.out.2.2;omega)) M (λj hj=>⟨jQ _,by have:=(HM.out.2 j hj).2;omega⟩)
       have:=br.stored eY fp eZ ML.out qN.out HAT.out (c:=7) (by decide) (.slice A6 n6 c6) (y:=⟨x.zone,x.signed,x.fresh,Np.ka x dr⟩) (λr _ hr=>R7 hr zw)
       simpa using this
      case measure=>simp[intOf] <;> omega
     ·have aY:Hid (Np.oW dr (Np.pubAll h) k=Np.bp h):=jq (by rw[<-Aj.out];exact Np.VB (by rw[dt.out];omega));rw[aY.out] at eS qN;have HE:Hid (Below w.heap.size w wr):=acZ ai HC.out;go_wp2_with fail;refine bodyPost_ret (v:=.tuple #[.slice A m c,.int .i64 0]) (by simp[results,results19,go_sem]) rfl ?_;rw[Tn.out];refine⟨_,_,_,rfl,qN.out,λM' hM'=>?_,HE.out⟩;exact eS.out.slr_sans fp eZ (λj hj=>⟨HM.out.1 j (by have:=(hM' j hj).2;omega),λe=>by have:=(eS.out.lt j e).1;have:=(hM' j hj).2;omega⟩) (by rw[qN.out];omega)
end
section
open Go.RowKit Go.Shelf Go.MapKept
attribute [local go_sem] Oper.semAt_some HC.cells
theorem Tryz.infoSignedP:(prog.info? 42).map (λi=>(i.zero,i.size,i.bytes))=some (some (.agg #[.string ⟨#[]⟩,.int .i64 0,.int .i64 0,.slice none 0 0,.slice none 0 0]),5,80):=by kernel_rfl
theorem br.sameM{α:Type}{R:a1Z α}{sz:Nat}{e:TypeId}{base:Nat}{M M':Nat->Prop}{w:World}{v:Value}{xs:List α}(h:br R sz e base M w v xs)(hM:∀ k,M k↔M' k):br R sz e base M' w v xs:=by
 have:M=M':=funext λk=>propext (hM k)
 rw[<-this];exact h
theorem Sb:∀ (w:World) (B:Nat) (r:List Value) (y:Np.Signed),bO w B r y->∀ u∈r,u.oneCell'=true:=λw B r y ⟨s,v,u',_,_,h3,h4,h5⟩ u hu=>by
 obtain⟨A,c,rfl,_⟩:=ak h3;obtain⟨A',c',rfl,_⟩:=ak h4;rw[h5] at hu;simp only[List.mem_cons,Qh,or_false] at hu;rcases hu with rfl | rfl | rfl | rfl | rfl <;> rfl
def usP(n:List UInt8)(ty:Int)(pre:List (HC×Np.Held)):List Np.Signed:=Np.cj (Np.sr (pre.map (·.2)) n ty)
theorem SR{n:List UInt8}{ty:Int}{pre:List (HC×Np.Held)}{x:HC×Np.Held}(h:¬ (x.2.signed.set.name=n/\x.2.signed.set.type=ty)):usP n ty (pre ++ [x])=usP n ty pre:=by
 unfold usP;rw[List.map_append,List.map_singleton,Np.IM,Qc h]
theorem aQX{n:List UInt8}{ty:Int}{pre:List (HC×Np.Held)}{x:HC×Np.Held}(h:x.2.signed.set.name=n/\x.2.signed.set.type=ty)(hu:x.2.signed∈usP n ty pre):usP n ty (pre ++ [x])=usP n ty pre:=by
 unfold usP at hu |-;rw[List.map_append,List.map_singleton,Np.IM,Qb h,Np.tt,Np.yO hu]
theorem aQK{n:List UInt8}{ty:Int}{pre:List (HC×Np.Held)}{x:HC×Np.Held}(h:x.2.signed.set.name=n/\x.2.signed.set.type=ty)(hu:x.2.signed∉usP n ty pre):usP n ty (pre ++ [x])=usP n ty pre ++ [x.2.signed]:=by
 unfold usP at hu |-;rw[List.map_append,List.map_singleton,Np.IM,Qb h,Np.tt,Np.gS,Qc hu]
theorem aQJ{n:List UInt8}{ty:Int}{pre:List (HC×Np.Held)}{s:Np.Signed}(h:s∈usP n ty pre):∃ x∈pre,x.2.signed=s:=by
 unfold usP Np.sr at h;rw[Np.th,List.mem_map] at h;obtain⟨y,hy,rfl⟩:=h;obtain⟨x,hx,rfl⟩:=List.mem_map.1 (List.mem_filter.1 hy).1;exact⟨x,hx,rfl⟩
theorem aQZ(n:List UInt8)(ty:Int)(pre:List (HC×Np.Held)):(usP n ty pre).length<=pre.length:=by
 unfold usP Np.sr;have h1:=Np.tr (((pre.map (·.2)).filter λx=>(x.signed.set.name == n)&&decide (x.signed.set.type=ty)).map (·.signed));rw[List.length_map] at h1;have h2:=List.length_filter_le (λx:Np.Held=>(x.signed.set.name == n)&&decide (x.signed.set.type=ty)) (pre.map (·.2));rw[List.length_map] at h2;omega
theorem St{α:Type}{R:a1Z α}{sz B:Nat}{w w':World}{v:Value}{xs:List α}(h:SlR R sz w B v xs)(he:w'.heap=w.heap)(hR:∀ e x,R w B e x->R w' B e x:=by exact λ_ _ h=>h):SlR R sz w' B v xs:=by
 obtain⟨A,c,h1,h2,h3,h4⟩:=h;refine⟨A,c,h1,h2,h3,λi x hx=>?_⟩;obtain⟨b,o,e,h5,h6,h7,h8,h9⟩:=h4 i x hx;exact⟨b,o,e,h5,h6,h7,λj v hj=>(iQ (by rw[he])).trans (h8 j v hj),hR _ _ h9⟩
def IA(w6:World)(Mb Ob:Nat)(n:List UInt8)(ty:Int)(pre:List (HC×Np.Held))(S:Nat->Prop)(W:World):Prop:=
 ∃ v,(∀ k,S k↔(k=Mb\/k=Ob)\/v.ownBlock=some k)/\dG Mb (Np.mS (usP n ty pre)) W/\Boxed W Ob 36 v/\br bO 5 42 w6.heap.size (λk=>Mb<=k) W v (usP n ty pre)/\RdStep (λk=>k=Mb\/k=Ob) w6 W
theorem RB(w6:World)(Mb Ob:Nat)(n:List UInt8)(ty:Int)(hM:Mb<=w6.heap.size):gp w6.heap.size (IA w6 Mb Ob n ty):=by
 rintro pre S W W' ⟨v,hS,h1,h2,h3,h4⟩ aB;refine⟨v,hS,h1.stays (aB.keep Mb h1.lt (.inr ((hS _).2 (.inl (.inl rfl))))),kU h2 aB ((hS _).2 (.inl (.inr rfl))),?_,⟨aB.os.trans h4.os,aB.tape.trans h4.tape,aB.output.trans h4.output,yQ h4.size aB.size,λk hk nV=>(aB.keep k (lQ hk h4.size) (.inl hk)).trans (h4.keep k hk nV)⟩⟩;exact h3.leaves bj lT cC ⟨aB.os,aB.tape,aB.output,aB.size,λi hi hm=>⟨hm,aB.keep i hi (.inl (by omega))⟩⟩ (λg hg=>⟨aB.keep g (h3.lt g hg).2 (.inr ((hS g).2 (.inr hg))),by have:=(h3.lt g hg).1;omega⟩)
theorem Np.auY{h:Np.Hist}(v:Np.VHist h)(hs:Np.lG h){x:Np.Held}(hx:x∈Np.pubAll h):KeyS x.signed/\Np.Plain47 x.signed:=by
 obtain⟨z,_,hz⟩:=Np.KX.1 hx;obtain⟨_,_,_,⟨c,hc,_,h1⟩,_⟩:=Np.KW v.full hz;exact⟨Tk (v.each c hc).zone h1 (hs c hc _ h1),Np.LQ (v.each c hc).zone h1 (hs c hc _ h1)⟩
theorem Np.NI{h:Np.Hist}(v:Np.VHist h)(hs:Np.lG h){x:Np.Held}(hx:x∈Np.bp h):KeyS x.signed/\Np.Plain47 x.signed:=by
 obtain⟨y,hy,rfl⟩:=List.mem_map.1 hx;show KeyS y.signed/\Np.Plain47 y.signed;exact Np.auY v hs hy
theorem D0(e:List Value)(h:Np.Hist)(q:ByteArray)(hq:q.size<=140737488355328)(ty t:Int)(w:World)(hV:jF w.heap.size w)(k:iW w e h) :
 Calls prog 17 #[.agg e.toArray,.agg #[.string q,.int .i64 ty],.int .i64 t] w λe w'=>∃ A n c,e = .returned (.tuple #[.slice A n c,.int .i64 (Np.mV h q.data.toList ty t).1])/\(Np.mV h q.data.toList ty t).2.length=n/\SlR bO 5 w' w'.heap.size (.slice A n c) (Np.mV h q.data.toList ty t).2/\Below w.heap.size w w':=by
 obtain⟨A1,n1,c1,A2,n2,c2,s,ty0,lf,A3,n3,c3,A4,n4,c4,dr,st,rfl,-,-,-,-,-⟩:=tm k.rh;obtain⟨X,hX⟩:=acJ w.heap.size;obtain⟨px,ba⟩:=acJ (Np.mV h q.data.toList ty t);rw[ba];have gw:=jq ba;obtain⟨w1,ah⟩:=acJ ((w.alloc (.cells #[.slice A1 n1 c1,.slice A2 n2 c2,.string s,.int .i64 ty0,.int .i64 lf,.slice A3 n3 c3,.slice A4 n4 c4,.int .i64 dr,.int .i64 st] 29)).alloc (.cells #[.string q,.int .i64 ty] 31));have bd:w1.heap.size=X+2:=by rw[<-ah,<-hX];simp
 have hb:Below w.heap.size w w1:=by rw[<-ah];exact ((vQ _ _).alloc (bQ _) _).alloc (by simp) _
 have av:=jq hb;have fN:=jq (hV.next hb);have fM:=jq (k.keep hb);have az:Hid (ls w1 X [.slice A1 n1 c1,.slice A2 n2 c2,.string s,.int .i64 ty0,.int .i64 lf,.slice A3 n3 c3,.slice A4 n4 c4,.int .i64 dr,.int .i64 st]):=jq (by
  rw[<-ah,<-hX];exact (iq [.slice A1 n1 c1,.slice A2 n2 c2,.string s,.int .i64 ty0,.int .i64 lf,.slice A3 n3 c3,.slice A4 n4 c4,.int .i64 dr,.int .i64 st] 29 rfl rfl).keep ((vQ _ _).alloc (bQ _) _) (by simp))
 have q0:w1.cell? ⟨X+1,0,none⟩=some (.string q):=by rw[<-ah,<-hX];simp[go_sem]
 have q1:w1.cell? ⟨X+1,1,none⟩=some (.int .i64 ty):=by rw[<-ah,<-hX];simp[go_sem]
 have iF:=jq (And.intro q0 q1);have yE:=jq hq;clear hb hV k ba hq;have k0:=az.out 0 _ rfl;have k1:=az.out 1 _ rfl;have k2:=az.out 2 _ rfl;have k3:=az.out 3 _ rfl;have k4:=az.out 4 _ rfl;have k5:=az.out 5 _ rfl;have k6:=az.out 6 _ rfl;have k7:=az.out 7 _ rfl;have k8:=az.out 8 _ rfl;refine (callsIn_wide (n:=0)).1 ?_;refine callsIn_of_wp_marks func17 rfl trivial ?_ rfl;simp only[ntmps17,List.size_toArray,List.length_cons,List.length_nil,Nat.reduceAdd,Nat.reduceSub,Array.replicate_succ,Array.replicate_zero,List.push_toArray,List.append_toArray,List.nil_append,List.cons_append];gi_wp2_with fail;clear ah;refine⟨trivial,rfl,?_⟩;refine (callsIn_wide.2 (NZ _ h w1 fN.out fM.out)).mono ?_;rintro e w2 ⟨rfl,hb⟩;have aN:=hb.size;have ai:=acZ av hb;have iH:=jq (fN.out.next hb);have iV:=jq (fM.out.keep hb);have aZ:=jq (az.out.keep hb (by omega));replace q0:=aaJ hb q0;replace q1:=aaJ hb q1;have kc:=jq hb;clear hb k0 k1 k2 k3 k4 k5 k6 k7 k8;by_cases cK:Np.VHist h
 case neg=>
  rw[Np.aF cK];have HN:=jq cK;clear cK;have eJ:Hid (px=((1:Int),[])):=jq (by rw[<-gw.out];exact Np.xU (λk=>HN.out k.1));gi_wp2_with fail;refine⟨trivial,?_⟩;gi_wp2_with fail;refine kV (v:=.tuple #[.slice none 0 0,.int .i64 1]) (by simp[results,results17,go_sem]) ?_;rw[eJ.out];exact⟨_,_,_,rfl,rfl,kG _ _ _ _,ai.out⟩
 case pos=>
  rw[Np.bh cK];have fu:=jq cK;clear cK;gi_wp2_with fail;refine⟨trivial,rfl,?_⟩;refine (callsIn_wide.2 (Zu q yE.out ty w2)).mono ?_;rintro e w3 ⟨rfl,hb⟩;have eR:=hb.size;have ar:=acZ ai hb;have lA:=jq (iH.out.next hb);have oF:=jq (iV.out.keep hb);have bi:=jq (aZ.out.keep hb (by omega));have ng:=acZ kc hb;clear hb q0 q1;by_cases hQ:Np.QOk q.data.toList ty
  case neg=>
   rw[Np.aF hQ];have HN:=jq hQ;clear hQ;have eJ:Hid (px=((1:Int),[])):=jq (by rw[<-gw.out];exact Np.xU (λk=>HN.out k.2.1));gi_wp2_with fail;refine kV (v:=.tuple #[.slice none 0 0,.int .i64 1]) (by simp[results,results17,go_sem]) ?_;rw[eJ.out];exact⟨_,_,_,rfl,rfl,kG _ _ _ _,ar.out⟩
  case pos=>
   rw[Np.bh hQ];have vP:=jq hQ;clear hQ;by_cases qr:t<0
   ·have nN:decide (t<0)=true:=uQ qr;have HN:=jq qr;clear qr;have eJ:Hid (px=((1:Int),[])):=jq (by rw[<-gw.out];exact Np.xU (λk=>by have:=k.2.2.1;have:=HN.out;omega));gi_wp2_with fail;refine kV (v:=.tuple #[.slice none 0 0,.int .i64 1]) (by simp[results,results17,go_sem]) ?_;rw[eJ.out];exact⟨_,_,_,rfl,rfl,kG _ _ _ _,ar.out⟩
   ·have nN:decide (t<0)=false:=tQ qr;by_cases qs:20000000<t
    ·have gu:decide (20000000<t)=true:=uQ qs;have HN:=jq qs;clear qs;have eJ:Hid (px=((1:Int),[])):=jq (by rw[<-gw.out];exact Np.xU (λk=>by have:=k.2.2.2;have:=HN.out;omega));gi_wp2_with fail;refine kV (v:=.tuple #[.slice none 0 0,.int .i64 1]) (by simp[results,results17,go_sem]) ?_;rw[eJ.out];exact⟨_,_,_,rfl,rfl,kG _ _ _ _,ar.out⟩
    ·have gu:decide (20000000<t)=false:=tQ qs;have bH:Hid (Np.DS h q.data.toList ty t):=jq ⟨fu.out,vP.out,by omega,by omega⟩;have jB:Hid (px=((0:Int),Np.cN (Np.bp h) q.data.toList ty t)):=jq (by rw[<-gw.out];exact Np.K0 bH.out);clear qr qs;have k0:=bi.out 0 _ rfl;have k1:=bi.out 1 _ rfl;have k2:=bi.out 2 _ rfl;have k3:=bi.out 3 _ rfl;have k4:=bi.out 4 _ rfl;have k5:=bi.out 5 _ rfl;have k6:=bi.out 6 _ rfl;have k7:=bi.out 7 _ rfl;have k8:=bi.out 8 _ rfl;gi_wp2_with fail;refine⟨trivial,rfl,?_⟩;refine (callsIn_wide.2 (Br _ h w3 lA.out oF.out)).mono ?_;rw[Np.we fu.out];rintro e w4 ⟨Aa,na,ca,rfl,jO,qp,hb⟩;have fl:=hb.size;have aU:=acZ ar hb;have tA:=acZ ng hb;have lw:=jq (lA.out.next hb).pow;have qX:Hid (SlR db 8 w4 w4.heap.size (.slice Aa na ca) (Np.bp h)):=jq (qp.all fp);have ql:(Np.bp h).length=na:=jO;have P8:na<=2100:=by rw[<-ql];unfold Np.bp;rw[List.length_map];exact fM.out.use.pubAll
     have r9:=jq ql;clear hb qp jO ql k0 k1 k2 k3 k4 k5 k6 k7 k8 nN gu;obtain⟨Mb,rm⟩:=acJ w4.heap.size;have mf:∀ (w:World),(Instr.makeMap 111 none).run prog w = .ok (.map (some w.heap.size)) (w.alloc (.map #[] 0)):=λw=>by
      simp[Instr.makeMap,Result.andThen]
     obtain⟨w5,aX⟩:=acJ (((w4.alloc (.map #[] 0)).alloc (.cells #[.map (some Mb)] 111)).alloc (.cells #[.slice none 0 0] 36));have ik:w5.heap.size=Mb+3:=by rw[<-aX,<-rm];simp
     have aH:Below w4.heap.size w4 w5:=by rw[<-aX];exact (((vQ _ _).alloc (bQ _) _).alloc (by simp) _).alloc (by simp <;> omega) _
     have qQ:Hid (dG Mb [] w5):=jq (by
      rw[<-aX,<-rm];exact ((dG.made w4).keep ((vQ _ _).alloc (bQ _) _) (by simp)).keep ((vQ _ _).alloc (bQ _) _) (by simp <;> omega))
     have Iu:Hid (Boxed w5 (Mb+1) 111 (.map (some Mb))):=jq (by
      rw[<-aX,<-rm]
      have:=(Boxed.new (w4.alloc (.map #[] 0)) 111 (.map (some w4.heap.size))).alloc (.cells #[.slice none 0 0] 36)
      simpa using this)
     have nt:Hid (Boxed w5 (Mb+1+1) 36 (.slice none 0 0)):=jq (by
      rw[<-aX,<-rm]
      have:=Boxed.new ((w4.alloc (.map #[] 0)).alloc (.cells #[.map (some w4.heap.size)] 111)) 36 (.slice none 0 0)
      simpa using this)
     have bN:=acZ aU aH;have yi:=acZ tA aH;have qE:=jq aH;clear aH;gi_wp2_with fail;clear mf;refine⟨trivial,rfl,?_⟩;refine (callsIn_wide.2 (O9 _ Aa na ca rfl t w5)).mono ?_;rintro e w6 ⟨rfl,ct⟩;have iy:w6.heap.size=Mb+5:=by rw[ct];simp;omega
     have aW:Below w5.heap.size w5 w6:=by rw[ct];exact ((vQ _ _).alloc (bQ _) _).alloc (by simp) _
     have kX:w6.cell? ⟨Mb+3,0,none⟩=some (.slice Aa na ca):=by rw[ct,<-ik];simp[go_sem]
     have kT:w6.cell? ⟨Mb+3+1,0,none⟩=some (.int .i64 t):=by rw[ct,show Mb+3+1=w5.heap.size+1 by omega];simp[go_sem]
     rw[ik];have tB:=acZ qE aW;obtain⟨L,iM,l5,p9⟩:=Pp (qX.out.keep eY tB.out);have AC:Hid (∀ x∈L,vu w6 w4.heap.size x.1 x.2):=jq (λx hx=>by
      obtain⟨i,hi⟩:=List.mem_iff_getElem?.1 hx;exact (p9 i x hi).1)
     have AD:Hid (∀ x∈L,KeyS x.2.signed/\Np.Plain47 x.2.signed):=jq (λx hx=>Np.NI fu.out fM.out.sums (by rw[<-iM];exact List.mem_map.2 ⟨x,hx,rfl⟩));have vH:=jq (Pa L t (Mb+3) (Mb+3+1) na ca (λk=>k<w6.heap.size/\¬ (k=Mb\/k=Mb+1+1)) Aa w6 ⟨by omega,by omega⟩ ⟨by omega,by omega⟩ kX kT l5 (by omega)
      (λi x hx=>by
        obtain⟨_,b,o,h1,h2,h3⟩:=p9 i x hx;exact⟨b,o,h1,⟨by omega,by omega⟩,h3⟩)
      (λx hx W hW=>by
        have h1:=(AC.out x hx).spans;have aI:Below w4.heap.size w6 ({ w6 with heap:=W.heap } : World):=⟨rfl,rfl,rfl,hW.1,λk hk=>(hW.2 k ⟨by omega,by omega⟩).2⟩;have h2:=(h1.keep eE aI).more jk (show w4.heap.size<=W.heap.size by have:=hW.1;omega);exact St h2 rfl))
     have AF:Hid (dG Mb [] w6):=jq (qQ.out.keep aW (by omega));have DM:=jq (a0J Iu.out aW);have qV:=jq (a0J nt.out aW);have dl:=acZ bN aW;have Di:=acZ yi aW;have nr:=jq iM;have yu:=jq l5;have oK:=jq (lw.out.keep tB.out);have AK:Hid (1<Mb):=jq (by rw[<-rm];exact lw.out.lt);have Nn:=jq iy;clear aW ct aX kX kT iM p9 l5;gi_wp2_with fail;refine F7 (Dr:=λk=>k<w6.heap.size/\¬ (k=Mb\/k=Mb+1+1)) (w0:=w6) (first:=#[]) (captured:=#[.pointer (some ⟨Mb+3,0,none⟩),.pointer (some ⟨Mb+3+1,0,none⟩)]) (gf:=127) rfl Ox (mk:=λy=>#[y,.pointer (some ⟨Mb+3,0,none⟩),.pointer (some ⟨Mb+3+1,0,none⟩)]) (λ_=>rfl)
      vH.out (fe.refl λk e=>e.1) (λ_=>rfl) (IA w6 Mb (Mb+1+1) q.data.toList ty) (λ_ _ _ _=>False)
      (RB _ _ _ _ _ (by omega)) (λc s S W W' h _=>h)
      (λk=>k=Mb\/k=Mb+1+1) (λk h1 h2=>h2.2 h1) (by intro k h;omega)
      ⟨.slice none 0 0,λk=>by simp[Value.ownBlock],AF.out,qV.out,br.nil _,RdStep.refl _ _⟩ ?round ?done ?stop
     case stop=>
      rintro D c pre S W hD gW bE gI h hK;exact h.elim
     case done=>
      rintro D S W hD gW bE ⟨v,hS,hms,fw,hown,aM⟩ hK;have ui:usP q.data.toList ty (L.filter λx=>Np.uX x.2.spans t)=Np.cN (Np.bp h) q.data.toList ty t:=by
       unfold usP;rw[Np.asQ,<-nr.out,List.filter_map];rfl
      rw[ui] at hown;obtain⟨m,hm⟩:=acJ ((Np.cN (Np.bp h) q.data.toList ty t).length);have jt:m<=2100:=by rw[<-hm];have:=Np.RC (Np.bp h) q.data.toList ty t;have:=r9.out;omega
      obtain⟨vA,vc,rfl⟩:=hown.formN hm;have HM:=jq hm;have bc:=fw.cell;have sD:=aM.size;have ab:=(eQ.1 hK).1;have kj:Hid (SlR bO 5 (W.putObj D (.deferred none)) W.heap.size (.slice vA m vc) (Np.cN (Np.bp h) q.data.toList ty t)):=jq (by
       have h1:=hown.leaves (w':=W.putObj D (.deferred none)) (M':=λk=>Mb<=k) bj lT cC ⟨rfl,rfl,rfl,by simp,λi hi J3=>⟨J3,zQ (by omega)⟩⟩ (λg hg=>⟨zQ (λe=>gW (e ▸ (hS g).2 (.inr hg))),by have:=(hown.lt g hg).1;omega⟩);have h2:=h1.slr lT (by rw[hm];omega);simpa using h2)
      have aV:Hid (Below X w W):=jq ((show Below X w w6 by rw[<-hX];exact dl.out).trans (aM.below (by omega) (λk e=>by omega)));have qL:=jq hK;have kK:Hid (X<=D):=jq (by omega);clear hK hown fw hms hS aM ui hm;gi_wp2_with fail;refine nJ qL.out (v:=.tuple #[.slice vA m vc,.int .i64 0]) (by simp[results,results17,go_sem]) ?_;rw[jB.out];exact⟨_,_,_,rfl,HM.out,by simpa using kj.out,by rw[hX];exact mA aV.out kK.out _⟩
     case round=>
      rintro l0 pre ⟨⟨xz,xs,xty,xlf,dA,dn,dc,gA,gn,gc,fA,fn,fc,pA,pn,pc⟩,cc⟩ S W ba hI fR;have AL:=jq ba;have Ba:Hid ((⟨xz,xs,xty,xlf,dA,dn,dc,gA,gn,gc,fA,fn,fc,pA,pn,pc⟩,cc)∈L):=jq ((List.mem_filter.1 (ba.subset (List.mem_append_right _ (List.mem_singleton.2 rfl)))).1);have uC:pre.length<=2100:=by
       have h1:=ba.length_le;have h2:=List.length_filter_le (λx:HC×Np.Held=>Np.uX x.2.spans t) L;have h3:=yu.out;rw[List.length_append,List.length_singleton] at h1;omega
      have nw:Hid (∀ y∈pre,Np.Plain47 y.2.signed):=jq (λy hy=>(AD.out y (List.mem_filter.1 (ba.subset (List.mem_append_left _ hy))).1).2);have mC:IA w6 Mb (Mb+1+1) q.data.toList ty pre S (W.alloc (.cells #[.string xz,.string xs,.int .i64 xty,.int .i64 xlf,.slice dA dn dc,.slice gA gn gc,.slice fA fn fc,.slice pA pn pc] 57)):=by
       obtain⟨v,hS,hms,fw,hown,aM⟩:=hI;have hb:Below W.heap.size W (W.alloc (.cells #[.string xz,.string xs,.int .i64 xty,.int .i64 xlf,.slice dA dn dc,.slice gA gn gc,.slice fA fn fc,.slice pA pn pc] 57)):=(vQ _ _).alloc (bQ _) _;exact⟨v,hS,hms.keep hb hms.lt,fw.alloc _,hown.keep bj lT cC hb,aM.then_below hb⟩
      have sD:w6.heap.size<=W.heap.size:=by obtain⟨v,_,_,_,_,aM⟩:=hI;exact aM.size
      have aZX:=jq fR;clear hI ba;gi_wp2;refine⟨λk=>S k\/k=W.heap.size,(RdStep.refl S W).alloc _,λk e=>e.imp id (λh=>by omega),λk e=>by rcases e with e | e;have:=fR k e;simp;omega;simp;omega,?_⟩;intro l W₂ aB;obtain⟨E,hE⟩:=acJ W.heap.size;obtain⟨v,hS,hms,fw,hown,aM⟩:=RB w6 Mb (Mb+1+1) q.data.toList ty (by omega) pre S _ W₂ mC (aB.weaken (bQ _) (λk e=>.inl e));have li:=aB.size;simp only[World.size_alloc] at li;have eG:W₂.heap[E]?=some (.cells #[.string xz,.string xs,.int .i64 xty,.int .i64 xlf,.slice dA dn dc,.slice gA gn gc,.slice fA fn fc,.slice pA pn pc] 57 (0,0)):=by rw[<-hE];exact (aB.keep W.heap.size (by simp) (.inr (.inr rfl))).trans (heap_alloc_new _ _)
      have jD:=jq eG;rw[hE] at li sD |-;have d1:W₂.cell? ⟨E,1,none⟩=some (.string xs):=(by simp[World.cell?,eG]);have d2:W₂.cell? ⟨E,2,none⟩=some (.int .i64 xty):=(by simp[World.cell?,eG]);have d3:W₂.cell? ⟨E,3,none⟩=some (.int .i64 xlf):=(by simp[World.cell?,eG]);have d4:W₂.cell? ⟨E,4,none⟩=some (.slice dA dn dc):=(by simp[World.cell?,eG]);have d5:W₂.cell? ⟨E,5,none⟩=some (.slice gA gn gc):=(by simp[World.cell?,eG]);have mD:∀ k,S k->k<W₂.heap.size:=λk e=>by have:=fR k e;omega
      have mo:∀ g,v.ownBlock=some g->w6.heap.size<=g/\g<W₂.heap.size:=λg hg=>hown.lt g hg;have Ep:¬ S E:=λe=>by have:=fR _ e;omega
      obtain⟨us,xy⟩:=acJ (usP q.data.toList ty pre);have iG:=jq xy;have Z5:us.length<=2100:=by rw[<-xy];have:=aQZ q.data.toList ty pre;omega
      rw[xy] at hms hown;obtain⟨m,hm⟩:=acJ us.length;rw[hm] at Z5;obtain⟨vA,vc,rfl⟩:=hown.formN hm;have HM:=jq hm;have lX:=jq (AC.out _ Ba.out);have oM:=jq (AD.out _ Ba.out);have DK:Hid (∀ y∈us,Np.Plain47 y):=jq (λy hy=>by
       rw[<-iG.out] at hy;obtain⟨x,hx,rfl⟩:=aQJ hy;exact nw.out x hx)
      have gR:=jq hS;have tK:=jq hms;have ei:=jq fw;have iZ:=jq hown;have qY:=jq aM;have kj:=jq mD;have nA:=jq mo;have bq0:W₂.cell? ⟨X+1,0,none⟩=some (.string q):=(iQ (a:=⟨X+1,0,none⟩) (aM.keep (X+1) (by omega) (by omega))).trans (aaJ Di.out iF.out.1);have bq1:W₂.cell? ⟨X+1,1,none⟩=some (.int .i64 ty):=(iQ (a:=⟨X+1,1,none⟩) (aM.keep (X+1) (by omega) (by omega))).trans (aaJ Di.out iF.out.2);have oO:Hid (Boxed W₂ (Mb+1) 111 (.map (some Mb))):=jq (DZ DM.out aM (by omega));have GF:Hid (SlR bR 3 W₂ W₂.heap.size (.slice dA dn dc) cc.signed.set.data):=jq ((lX.out.data.keep bV (aM.below (n:=w4.heap.size) (by omega) (λk e=>by omega))).more cu (by omega));have DI:Hid (SlR cS 6 W₂ W₂.heap.size (.slice gA gn gc) cc.signed.sigs):=jq ((lX.out.sigs.keep cg (aM.below (n:=w4.heap.size) (by omega) (λk e=>by omega))).more cY (by omega));have lz:Hid (go W₂):=jq (oK.out.keepAt (aM.below (n:=Mb) (by omega) (λk e=>by omega)) AK.out);have If:Hid (∀ k,(S k\/k=E)↔(((k=Mb\/k=Mb+1+1)\/(Value.slice vA m vc).ownBlock=some k)\/k=E)):=jq (λk=>or_congr (hS k) Iff.rfl);have Hh:Hid (xs.data.toList=cc.signed.set.name):=jq lX.out.name;have dF:Hid (xty=cc.signed.set.type):=jq lX.out.type;have yw:Hid (xlf=cc.signed.set.life):=jq lX.out.life;have xO:E<W₂.heap.size:=by omega
      clear hm hms fw hown hS aM aB mC mo fR mD xy eG hE;by_cases ig:xs.data.toList=q.data.toList
      case neg=>
       have hne:(xs.toList == q.toList)=false:=beq_eq_false_iff_ne.2 (λe=>ig (by rw[<-dQ,e,dQ]));have qS:=jq ig;clear ig;have bC:Hid (usP q.data.toList ty (pre ++ [(⟨xz,xs,xty,xlf,dA,dn,dc,gA,gn,gc,fA,fn,fc,pA,pn,pc⟩,cc)])=us):=jq (by rw[SR (by rintro⟨h1,_⟩;exact qS.out (Hh.out.trans h1)),iG.out]);gi_wp2_with fail;refine⟨λk=>(k=Mb\/k=Mb+1+1)\/(Value.slice vA m vc).ownBlock=some k,RdStep.refl _ _,λk e=>.inl ((If.out k).2 (.inl e)),λk e=>kj.out k ((gR.out k).2 e),.slice vA m vc,λk=>Iff.rfl,by rw[bC.out];exact tK.out,ei.out,by rw[bC.out];exact iZ.out,qY.out⟩
      case pos=>
       obtain rfl:xs=q:=j9 ig;have qS:=jq ig;clear ig;by_cases pj:xty=ty
       case neg=>
        have hne:(xty != ty)=true:=by simpa [bne] using pj
        have xi:(xty == ty)=false:=by simpa using pj
        have U8:=jq pj;clear pj;have bC:Hid (usP xs.data.toList ty (pre ++ [(⟨xz,xs,xty,xlf,dA,dn,dc,gA,gn,gc,fA,fn,fc,pA,pn,pc⟩,cc)])=us):=jq (by rw[SR (by rintro⟨_,h1⟩;exact U8.out (dF.out.trans h1)),iG.out]);gi_wp2_with fail;refine⟨λk=>(k=Mb\/k=Mb+1+1)\/(Value.slice vA m vc).ownBlock=some k,RdStep.refl _ _,λk e=>.inl ((If.out k).2 (.inl e)),λk e=>kj.out k ((gR.out k).2 e),.slice vA m vc,λk=>Iff.rfl,by rw[bC.out];exact tK.out,ei.out,by rw[bC.out];exact iZ.out,qY.out⟩
       case pos=>
        obtain rfl:xty=ty:=pj;have sk:Hid ((⟨⟨xs.data.toList,xty,xlf,cc.signed.set.data⟩,cc.signed.sigs⟩:Np.Signed)=cc.signed):=jq (by rw[Hh.out,dF.out,yw.out]);have HAS:Hid (cc.signed.set.name=xs.data.toList/\cc.signed.set.type=xty):=jq ⟨Hh.out.symm,dF.out.symm⟩;gi_wp2_with fail;refine⟨trivial,rfl,?_⟩;refine (CallsIn.inRound l (callsIn_wide.2 (Kn xs xty xlf _ _ cc.signed.set.data cc.signed.sigs W₂ lz.out (by rw[sk.out];exact oM.out.1) GF.out DI.out))).mono ?_;rw[sk.out];rintro e w7 ⟨rfl,hb⟩;have mR:=hb.size;replace d1:=(hb.cell (p:=⟨E,1,none⟩) xO).trans d1;replace d2:=(hb.cell (p:=⟨E,2,none⟩) xO).trans d2;replace d3:=(hb.cell (p:=⟨E,3,none⟩) xO).trans d3;replace d4:=(hb.cell (p:=⟨E,4,none⟩) xO).trans d4;replace d5:=(hb.cell (p:=⟨E,5,none⟩) xO).trans d5;have cD:=jq hb;have He:=jq (tK.out.keep hb tK.out.lt);have Pe:=cU oO.out hb oO.out.lt;have DE:=jq (cU ei.out hb ei.out.lt);have MO:=jq (iZ.out.keep bj lT cC hb);have bm:=Pe.cell;have bo:=DE.out.cell;have zo:=DE.out.frozen;obtain⟨key,mI⟩:=acJ (Np.dE cc.signed);have no:=jq mI;rw[mI];have jw:=FT (P:=prog) w7 111 9 4 underlying111 underlying9 Mb _ He.out key (.bool false) (by kernel_rfl);clear hb mI Pe bq0 bq1;by_cases hin:cc.signed∈us
        case pos=>
         have er:(Np.mS us).lookup key=some (.bool true):=by rw[<-no.out];exact Np.Q6 hin
         rw[er] at jw;simp only[Option.getD_some] at jw;have bC:Hid (usP xs.data.toList xty (pre ++ [(⟨xz,xs,xty,xlf,dA,dn,dc,gA,gn,gc,fA,fn,fc,pA,pn,pc⟩,cc)])=us):=jq (by rw[aQX HAS.out (by rw[iG.out];exact hin),iG.out]);clear hin er;gi_wp2_with fail;refine⟨λk=>(k=Mb\/k=Mb+1+1)\/(Value.slice vA m vc).ownBlock=some k,RdStep.of_below cD.out,λk e=>.inl ((If.out k).2 (.inl e)),λk e=>by have:=kj.out k ((gR.out k).2 e);omega,.slice vA m vc,λk=>Iff.rfl,by rw[bC.out];exact He.out,DE.out,by rw[bC.out];exact MO.out,qY.out.then_below cD.out⟩
        case neg=>
         have er:(Np.mS us).lookup key=none:=by rw[<-no.out];exact Np.Q5 oM.out.2 DK.out hin
         rw[er] at jw;simp only[Option.getD_none] at jw;have bC:Hid (usP xs.data.toList xty (pre ++ [(⟨xz,xs,xty,xlf,dA,dn,dc,gA,gn,gc,fA,fn,fc,pA,pn,pc⟩,cc)])=us ++ [cc.signed]):=jq (by rw[aQK HAS.out (by rw[iG.out];exact hin),iG.out]);obtain⟨wU,rA,nY,cG⟩:=Sj (P:=prog) w7 111 9 4 underlying111 underlying9 Mb _ He.out key (.bool true) er;have Fm:wU.heap.size<=w7.heap.size:=Nat.le_of_eq cG.size;have beK:w7.heap.size<=wU.heap.size:=Nat.le_of_eq cG.size.symm;have oI:Hid (dG Mb (Np.mS (us ++ [cc.signed])) wU):=jq (by rw[Np.ahZ,no.out];exact nY);have gz:Hid (RdStep (λk=>S k\/k=E) W₂ wU):=jq ⟨cG.os.trans cD.out.os,cG.tape.trans cD.out.tape,cG.output.trans cD.out.output,by omega,λk hk nV=>(cG.block k (λe=>nV (.inl ((gR.out k).2 (.inl (.inl e)))))).trans (cD.out.block k hk)⟩;have MZ:Hid (RdStep (λk=>k=Mb\/k=Mb+1+1) w6 wU):=jq ((qY.out.then_below cD.out).trans (S':=λk=>k=Mb) ⟨cG.os,cG.tape,cG.output,by omega,λk _ nV=>cG.block k nV⟩ (λk e=>.inl (.inl e)));have yj:Hid (Boxed wU (Mb+1+1) 36 (.slice vA m vc)):=jq ((cG.block _ (by omega)).trans DE.out);have UF:Hid (br bO 5 42 w6.heap.size (λk=>Mb<=k) wU (.slice vA m vc) us):=jq (MO.out.leaves bj lT cC ⟨cG.os,cG.tape,cG.output,by omega,λi hi J3=>⟨J3,cG.block i (by omega)⟩⟩ (λg hg=>⟨cG.block g (by have:=(nA.out g hg).1;omega),by have:=(nA.out g hg).1;omega⟩));have tC:Hid (Below Mb W₂ wU):=jq ((cD.out.adZ).trans ⟨cG.os,cG.tape,cG.output,by omega,λk hk=>cG.block k (by omega)⟩);have BF:E≠Mb:=by omega
         clear hin er nY zo bo;have bo:=yj.out.cell;have zo:=yj.out.frozen;replace d1:=(iQ (a:=⟨E,1,none⟩) (cG.block E BF)).trans d1;replace d2:=(iQ (a:=⟨E,2,none⟩) (cG.block E BF)).trans d2;replace d3:=(iQ (a:=⟨E,3,none⟩) (cG.block E BF)).trans d3;replace d4:=(iQ (a:=⟨E,4,none⟩) (cG.block E BF)).trans d4;replace d5:=(iQ (a:=⟨E,5,none⟩) (cG.block E BF)).trans d5;clear cG;obtain⟨w8,eB⟩:=acJ (wU.alloc (.cells #[.string xs,.int .i64 xty,.int .i64 xlf,.slice dA dn dc,.slice gA gn gc] 42));have cL:Below wU.heap.size wU w8:=by rw[<-eB];exact (vQ _ _).alloc (bQ _) _
         have n7:w8.heap.size<=wU.heap.size+1:=by rw[<-eB];simp
         have acX:wU.heap.size<w8.heap.size:=by rw[<-eB];simp
         have cH:Hid (eh w8 wU.heap.size 0 [.string xs,.int .i64 xty,.int .i64 xlf,.slice dA dn dc,.slice gA gn gc]):=jq (wl _ _ rfl eB.symm);have UE:=jq (UF.out.keep bj lT cC cL);have TJ:=jq (a0J yj.out cL);have eF:=jq cL;have yG:Hid (bO (bF w8 λk=>Mb<=k) w8.heap.size [.string xs,.int .i64 xty,.int .i64 xlf,.slice dA dn dc,.slice gA gn gc] cc.signed):=jq (by
          have dP:Below w4.heap.size w6 w8:=((MZ.out.below (n:=w4.heap.size) (by omega) (λk e=>by omega)).trans (cL.adZ));rw[<-sk.out];exact⟨xs,_,_,rfl,lX.out.short,(lX.out.data.keep bV dP).around bV cu (λk e=>by omega) (by omega),(lX.out.sigs.keep cg dP).around cg cY (λk e=>by omega) (by omega),rfl⟩)
         obtain⟨si,Kg,Kh,Ki,Kj⟩:=info_parts Tryz.infoSignedP;clear cL;gi_wp2_with (first
          | (gi_at_builtin;refine aVZ rfl (by intro c h;cases h) (by rintro⟨_,_,h⟩;exact h) ?_;refine Dd (R:=bO) (M:=λk=>Mb<=k) w8 rfl _ _ 36 rfl w6.heap.size 42 si (.agg #[.string ⟨#[]⟩,.int .i64 0,.int .i64 0,.slice none 0 0,.slice none 0 0]) 80 underlying36 Kg Kh Ki Kj rfl (by decide) (.slice vA m vc) us rfl UE.out (some ⟨wU.heap.size,0,none⟩) 1 [cc.signed] rfl (C4 rfl yG.out cH.out) Sb (by rw[HM.out];simp[maxLen];omega) (by rw[HM.out];simp;omega) (by omega) bj lT cC ?_;intro v9 w9 J7 ER O8;obtain⟨A9,c9,rfl⟩:=J7.formN (n:=m+1) (by rw[List.length_append,HM.out];rfl);have qv:=ER.size;have EJ:=((ER.block (Mb+1+1) (by omega) (λe=>by have:=(nA.out _ e.symm).1;omega)).trans TJ.out);have TK:Hid (Boxed w9 (Mb+1+1) 36 (.slice vA m vc)):=jq EJ;have bo9:w9.cell? ⟨Mb+1+1,0,none⟩=some (.slice vA m vc):=Boxed.cell EJ;have zo9:w9.frozen? ⟨Mb+1+1,0,none⟩=false:=Boxed.frozen EJ;have H9:=jq (And.intro J7 (And.intro ER O8));clear J7 ER O8 EJ;refine aVY ?_))
         have ZR:∀ k,(Value.slice A9 (m+1) c9).ownBlock=some k->(Value.slice vA m vc).ownBlock=some k\/w8.heap.size=k:=λk e=>by
          rcases H9.out.2.2 with h | h
          ·exact .inl (h ▸ e)
          ·rw[h] at e;exact .inr (Option.some.inj e)
         have EW:∀ k,(Value.slice A9 (m+1) c9).ownBlock=some k->w6.heap.size<=k/\k<w9.heap.size:=λk e=>H9.out.1.lt k e;refine⟨λk=>(k=Mb\/k=Mb+1+1)\/(Value.slice A9 (m+1) c9).ownBlock=some k,((gz.out.then_below eF.out).grown H9.out.2.1 (λk e=>.inl (.inl ((gR.out k).2 (.inr e))))).setCell (.inl (.inl ((gR.out _).2 (.inl (.inr rfl))))) _,λk e=>?_,λk e=>?_,?_⟩
         ·rcases e with e | e
          ·exact .inl (.inl ((gR.out _).2 (.inl e)))
          ·rcases ZR k e with e | e
           ·exact .inl (.inl ((gR.out _).2 (.inr e)))
           ·right;omega
         ·simp[World.setCell];rcases e with e | e
          ·omega
          ·exact (EW k e).2
         ·have XX:Hid (dG Mb (Np.mS (us ++ [cc.signed])) w9):=jq ((oI.out.keep eF.out (by omega)).stays (H9.out.2.1.block Mb (by omega) (λe=>by have:=(nA.out _ e.symm).1;omega)));refine⟨_,λk=>Iff.rfl,by rw[bC.out];exact XX.out.stays (wQ _ _ _ _ (by dsimp only;omega)),Boxed.set _ TK.out,?_,(((MZ.out.then_below eF.out).grown H9.out.2.1 (λk e=>.inr (nA.out k e).1)).setCell (.inl (.inr rfl)) _)⟩;rw[bC.out];have h1:=H9.out.1.sameM (M':=λk=>Mb<=k) (λk=>⟨λe=>e.elim id (λe=>by have:=(EW k e).1;omega),.inl⟩);exact h1.leaves bj lT cC (Leaves'.setCell _ _ (by dsimp only;omega) _) (λg hg=>⟨wQ _ _ _ _ (by dsimp only;have:=(EW g hg).1;omega),by have:=(EW g hg).1;omega⟩)
end
section
open Go.RowKit

end
end Go.Proofs.YtfnopgdcaanaiaaGreatDoor
