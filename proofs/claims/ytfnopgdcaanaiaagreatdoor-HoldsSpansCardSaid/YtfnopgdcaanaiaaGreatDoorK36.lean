/- Parts of the proof. No condition. -/
import Derived.Test.YtfnopgdcaanaiaaGreatDoorK22
import Derived.Test.YtfnopgdcaanaiaaGreatDoorK28
import Derived.Test.YtfnopgdcaanaiaaGreatDoorK35
set_option linter.all false
set_option maxRecDepth 100000
set_option maxHeartbeats 8000000
namespace Go.Proofs.YtfnopgdcaanaiaaGreatDoor
open Go.Proofs.Tryz
section
open Go.RowKit Go.Shelf Go.MapKept
attribute [local go_sem] Oper.semAt_some CV.cells
def yU(z:ByteArray):Value->Value
 | .agg xs=>.agg (#[.string z]++xs ++ #[.slice none 0 0,.slice none 0 0])
 | _=>undef
def Cu:Value->Value
 | .tuple xs=>xs.getD 0 undef
 | _=>undef
def EV:Value->Value
 | .tuple xs=>xs.getD 1 undef
 | _=>undef
def eE(g n cap q:Nat)(fA:Option Addr)(fn fc cb:Nat)(xf xt:Int)(e12:Value)(e13:Value)(i:Nat):Value:=[.slice (some ⟨g,0,none⟩) n cap,.int .i64 (q:Nat),.slice (some ⟨g,0,none⟩) n cap,.int .i64 (q:Nat),.pointer (some ⟨g,q * 8,none⟩),.pointer (some ⟨g,q * 8+6,none⟩),.slice fA fn fc,.pointer (some ⟨cb,1,none⟩),.int .i64 xf,.pointer (some ⟨cb,2,none⟩),.int .i64 xt,.agg #[.int .i64 xf,.int .i64 xt],e12,e13,.pointer (some ⟨g,q * 8,none⟩),.pointer (some ⟨g,q * 8+6,none⟩),undef].getD i undef
def el(i:Nat):Nat:=[62,63,64,65,66,67,68,69,70,71,72,73,74,75,76,77,0].getD i 0
def wM:List Nat:=[0,1,2,3,4,5,6,7,8,9,10,11,14,15,12,13].map el
theorem jE:∀ i∈[0,1,2,3,4,5,6,7,8,9,10,11,14,15,12,13],el i<101/\el i∈wM:=by decide
theorem qo:∀ i∈[0,1,2,3,4,5,6,7,8,9,10,11,14,15,12,13],∀ j∈[0,1,2,3,4,5,6,7,8,9,10,11,14,15,12,13],j≠i->el i≠el j:=by decide
def iH(oA:Option Addr)(m oc:Nat)(z ss:ByteArray)(sty slf:Int)(dA:Option Addr)(dn dc:Nat)(gA:Option Addr)(gn gc:Nat)(e3:Value)(e5:Value)(e6:Value)(i:Nat):Value:=[.slice oA m oc,.string z,.agg #[.string ss,.int .i64 sty,.int .i64 slf,.slice dA dn dc,.slice gA gn gc],e3,yU z e3,e5,e6,undef].getD i undef
def gU(i:Nat):Nat:=[52,53,54,55,56,57,58,0].getD i 0
def Ct:List Nat:=[0,1,2,4,3,5,6].map gU
theorem og:∀ i∈[0,1,2,4,3,5,6],gU i<101/\gU i∈Ct:=by decide
theorem wL:∀ i∈[0,1,2,4,3,5,6],∀ j∈[0,1,2,4,3,5,6],j≠i->gU i≠gU j:=by decide
def no(g n cap q:Nat)(fA:Option Addr)(fn fc:Nat)(e7:Value)(i:Nat):Value:=[.slice (some ⟨g,0,none⟩) n cap,.int .i64 (q:Nat),.slice (some ⟨g,0,none⟩) n cap,.int .i64 (q:Nat),.pointer (some ⟨g,q * 8,none⟩),.pointer (some ⟨g,q * 8+6,none⟩),.slice fA fn fc,e7,e7,Cu e7,EV e7,.pointer (some ⟨g,q * 8,none⟩),.pointer (some ⟨g,q * 8+6,none⟩),undef].getD i undef
def lC(i:Nat):Nat:=[87,88,89,90,91,92,93,94,86,95,96,97,98,0].getD i 0
def JN:List Nat:=[0,1,2,3,4,5,6,8,9,10,11,12,7].map lC
theorem yT:∀ i∈[0,1,2,3,4,5,6,8,9,10,11,12,7],lC i<101/\lC i∈JN:=by decide
theorem EU:∀ i∈[0,1,2,3,4,5,6,8,9,10,11,12,7],∀ j∈[0,1,2,3,4,5,6,8,9,10,11,12,7],j≠i->lC i≠lC j:=by decide
def psP(PP:List (Np.Span×Np.Signed))(sp:Np.Span)(sets:List Np.Signed)(j:Nat):List (Np.Span×Np.Signed):=PP++(sets.take j).map λs=>(sp,s)
theorem ajX(PP:List (Np.Span×Np.Signed))(sp:Np.Span)(sets:List Np.Signed):psP PP sp sets 0=PP:=by simp[psP]
theorem ajQ{PP:List (Np.Span×Np.Signed)}{sp:Np.Span}{sets:List Np.Signed}{j:Nat}(h:sets.length=j):psP PP sp sets j=PP++sets.map λs=>(sp,s):=by unfold psP;rw[kQ (by omega)]
theorem ajK{PP:List (Np.Span×Np.Signed)}{sp:Np.Span}{sets:List Np.Signed}{j:Nat}{x:Np.Signed}(h:sets[j]?=some x):psP PP sp sets (j+1)=psP PP sp sets j ++ [(sp,x)]:=by
 obtain⟨hl,he⟩:=cQ.1 h;unfold psP;rw[fQ hl,he,List.map_append,List.append_assoc];rfl
theorem ajJ{PP:List (Np.Span×Np.Signed)}{sp:Np.Span}{sets:List Np.Signed}{j:Nat}{p:Np.Span×Np.Signed}(h:p∈psP PP sp sets j):p∈PP++sets.map λs=>(sp,s):=by
 rcases List.mem_append.1 h with h | h
 ·exact List.mem_append.2 (.inl h)
 ·obtain⟨s,hs,rfl⟩:=List.mem_map.1 h;exact List.mem_append.2 (.inr (List.mem_map.2 ⟨s,List.mem_of_mem_take hs,rfl⟩))
theorem ajZ(PP:List (Np.Span×Np.Signed))(sp:Np.Span)(sets:List Np.Signed)(j:Nat):(psP PP sp sets j).length<=(PP++sets.map λs=>(sp,s)).length:=by
 unfold psP;simp only[List.length_append,List.length_map,List.length_take];omega
theorem aiY{a b:List (CV×Np.Copy)}(h:a <+: b):∃ c,((b.map (·.2)).flatMap Np.oe)=((a.map (·.2)).flatMap Np.oe)++c:=by
 obtain⟨c,rfl⟩:=h;exact⟨(c.map (·.2)).flatMap Np.oe,by rw[List.map_append,List.flatMap_append]⟩
def Dq(w6:World)(bo bt bm:Nat)(zn:ByteArray)(pre:List (CV×Np.Copy))(S:Nat->Prop)(W:World):Prop:=
 ∃ (xs:List PT) (ov:Value) (M:Nat->Prop),S bo/\S bt/\S bm/\(∀ k,sX xs ov k->S k)/\(∀ k,S k->k=bo\/k=bt\/k=bm\/w6.heap.size<=k)/\(∀ k,¬ S k->M k)/\M bo/\M bt/\M bm/\
   Boxed W bo 52 ov/\Boxed W bt 4 (.bool (!pre.isEmpty))/\cI bm (Np.ni (xs.map (·.1))) W/\PubR w6.heap.size M zn xs ov W/\xs.map (λx=>(x.1,x.2.1))=Np.ej ((pre.map (·.2)).flatMap Np.oe)/\RdStep (λk=>k=bo\/k=bt\/k=bm) w6 W
theorem Qr(w6:World)(bo bt bm:Nat)(zn:ByteArray):fq w6.heap.size (Dq w6 bo bt bm zn):=by
 rintro pre S W W' ⟨xs,ov,M,h1,h2,h3,h4,h5,h6,m1,m2,m3,h7,h8,h9,pT,ya,ta⟩ av;refine⟨xs,ov,M,h1,h2,h3,h4,h5,h6,m1,m2,m3,jU h7 av h1,jU h8 av h2,h9.stays (av.keep bm h9.lt (.inr h3)),?_,ya,⟨av.os.trans ta.os,av.tape.trans ta.tape,av.output.trans ta.output,yQ ta.size av.size,λk hk rE=>(av.keep k (lQ hk ta.size) (.inl hk)).trans (ta.keep k hk rE)⟩⟩;exact pT.leaves ⟨av.os,av.tape,av.output,av.size,λi hi hm=>⟨hm,av.keep i hi (.inr (Classical.byContradiction λhs=>hm (h6 i hs)))⟩⟩ (λg hg=>⟨av.keep g (pT.lt hg).2.1 (.inr (h4 g hg)),(pT.lt hg).2.2⟩)
theorem akK{w6:World}{bo bt bm:Nat}{zn:ByteArray}{pre:List (CV×Np.Copy)}{S:Nat->Prop}{W W':World}(h:Dq w6 bo bt bm zn pre S W)(hb:Below W.heap.size W W'):Dq w6 bo bt bm zn pre S W':=by
 obtain⟨xs,ov,M,h1,h2,h3,h4,h5,h6,m1,m2,m3,h7,h8,h9,pT,ya,ta⟩:=h;exact⟨xs,ov,M,h1,h2,h3,h4,h5,h6,m1,m2,m3,cR h7 hb h7.lt,cR h8 hb h8.lt,h9.keep hb h9.lt,pT.keep hb,ya,ta.then_below hb⟩
theorem MI{w:World}{B:Nat}{L:List (CV×Np.Copy)}(h:∀ x∈L,CVOf w B x.1 x.2)(z:List UInt8):((L.filter λx=>x.1.str.data.toList == z).map (·.2)).flatMap Np.oe=Np.de (L.map (·.2)) z:=by
 unfold Np.de Np.vd;congr 1
 induction L with
 | nil=>rfl
 | cons x L ih=>
  have hx:=h x (by simp);have ih:=ih (λy hy=>h y (mQ _ hy));rw[List.map_cons,List.filter_cons,List.filter_cons,hx.apex];split
  ·rw[List.map_cons,ih]
  ·exact ih
theorem alY(e:List Value)(h:Np.Hist)(hf:Np.xi h)(OX:Np.jS h)(z:ByteArray)(hz:z.size<=140737488355328)(hp:(Np.de h.copies z.data.toList).length<=5000)(w:World)(hR:iP w w.heap.size)(hP:fU w)(hh:fo w w.heap.size e h) :
 Calls prog 61 #[.agg e.toArray,.string z] w λe w'=>((¬ Np.uU h z.data.toList/\e = .returned (.tuple #[.slice none 0 0,.int .i64 1]))\/(Np.uU h z.data.toList/\((¬ Np.xT h z.data.toList/\e = .returned (.tuple #[.slice none 0 0,.int .i64 4]))\/(Np.xT h z.data.toList/\∃ v',e = .returned (.tuple #[v',.int .i64 0])/\gq iO 8 0 w.heap.size w' v' (Np.pub h.copies z.data.toList)))))/\Below w.heap.size w w':=by
 have uI:=jq hh;obtain⟨hv,cv,s,dv,cE,rfl,bl,gG,h3,h4,h5,h6⟩:=hh;obtain⟨ty,dX⟩:∃ ty,h.anchor.type=ty:=⟨_,rfl⟩;obtain⟨life,rG⟩:∃ life,h.anchor.life=life:=⟨_,rfl⟩;obtain⟨drift,Br⟩:∃ drift,h.drift=drift:=⟨_,rfl⟩;obtain⟨stop,iV⟩:∃ stop,h.stop=stop:=⟨_,rfl⟩;have H3:=jq h3;have H4:=jq h4;have H5:=jq h5;have H6:=jq h6;have HS:=jq (And.intro bl gG);have il:=jq hf;have cN:=jq iV;have eK:=jq (And.intro dX rG);obtain⟨A1,c1,rfl,_,_⟩:=al h3;obtain⟨A2,c2,rfl,_,_⟩:=al h4;obtain⟨A3,c3,rfl,_,_⟩:=al h5;obtain⟨A4,c4,rfl,_,_⟩:=al h6;clear h3 h4 h5 h6 bl gG hf;obtain⟨n1,bp⟩:∃ n,h.hosts.length=n:=⟨_,rfl⟩;obtain⟨n2,bJ⟩:∃ n,h.copies.length=n:=⟨_,rfl⟩;obtain⟨n3,di⟩:∃ n,h.anchor.data.length=n:=⟨_,rfl⟩;obtain⟨n4,dO⟩:∃ n,h.hints.length=n:=⟨_,rfl⟩;rw[bp] at H3;rw[bJ] at H4;rw[di] at H5;rw[dO] at H6;rw[bp,bJ,di,dO,dX,rG,Br,iV] at uI |-;have nA:=jq bJ;clear bp bJ di dO dX rG Br iV;obtain⟨r,hr⟩:∃ r,Np.yes (Np.VHist h)=r:=⟨_,rfl⟩;have oM:=jq hr;clear hr;obtain⟨X,hX⟩:∃ X,w.heap.size=X:=⟨_,rfl⟩;obtain⟨W1,an⟩:∃ W1,(((w.alloc (.cells #[.slice A1 n1 c1,.slice A2 n2 c2,.string s,.int .i64 ty,.int .i64 life,.slice A3 n3 c3,.slice A4 n4 c4,.int .i64 drift,.int .i64 stop] 29)).alloc (.cells #[.string z] 9)).alloc (.cells #[.slice none 0 0] 52)).alloc (.cells #[.int .i64 0] 37)=W1:=⟨_,rfl⟩;have aL:Below w.heap.size w W1:=by rw[<-an];exact ((((vQ _ _).alloc (bQ _) _).alloc (by simp <;> omega) _).alloc (by simp <;> omega) _).alloc (by simp <;> omega) _
 have kP:W1.heap.size=X+4:=by rw[<-an,<-hX];simp
 have k0:W1.cell? ⟨X,0,none⟩=some (.slice A1 n1 c1):=by rw[<-an,<-hX];simp[go_sem]
 have k1:W1.cell? ⟨X,1,none⟩=some (.slice A2 n2 c2):=by rw[<-an,<-hX];simp[go_sem]
 have k2:W1.cell? ⟨X,2,none⟩=some (.string s):=by rw[<-an,<-hX];simp[go_sem]
 have k3:W1.cell? ⟨X,3,none⟩=some (.int .i64 ty):=by rw[<-an,<-hX];simp[go_sem]
 have k4:W1.cell? ⟨X,4,none⟩=some (.int .i64 life):=by rw[<-an,<-hX];simp[go_sem]
 have k5:W1.cell? ⟨X,5,none⟩=some (.slice A3 n3 c3):=by rw[<-an,<-hX];simp[go_sem]
 have k6:W1.cell? ⟨X,6,none⟩=some (.slice A4 n4 c4):=by rw[<-an,<-hX];simp[go_sem]
 have k7:W1.cell? ⟨X,7,none⟩=some (.int .i64 drift):=by rw[<-an,<-hX];simp[go_sem]
 have k8:W1.cell? ⟨X,8,none⟩=some (.int .i64 stop):=by rw[<-an,<-hX];simp[go_sem]
 have kz:W1.cell? ⟨X+1,0,none⟩=some (.string z):=by rw[<-an,<-hX];simp[go_sem]
 have HO:Hid (Boxed W1 (X+1+1) 52 (.slice none 0 0)):=jq (by
  rw[<-an,<-hX]
  have:=(Boxed.new ((w.alloc (.cells #[.slice A1 n1 c1,.slice A2 n2 c2,.string s,.int .i64 ty,.int .i64 life,.slice A3 n3 c3,.slice A4 n4 c4,.int .i64 drift,.int .i64 stop] 29)).alloc (.cells #[.string z] 9)) 52 (.slice none 0 0)).alloc (.cells #[.int .i64 0] 37)
  simpa using this)
 have HE:Hid (Boxed W1 (X+1+1+1) 37 (.int .i64 0)):=jq (by
  rw[<-an,<-hX]
  have:=Boxed.new (((w.alloc (.cells #[.slice A1 n1 c1,.slice A2 n2 c2,.string s,.int .i64 ty,.int .i64 life,.slice A3 n3 c3,.slice A4 n4 c4,.int .i64 drift,.int .i64 stop] 29)).alloc (.cells #[.string z] 9)).alloc (.cells #[.slice none 0 0] 52)) 37 (.int .i64 0)
  simpa using this)
 have gd:=jq hR;have nC:=jq hP;have G3:=jq OX;have oI:=jq hp;have zH:Hid (1<w.heap.size):=jq hP.lt;rw[hX] at aL H3 H4 H5 H6 uI gd zH |-;have aU:=jq aL;clear aL hR hP OX hp;refine (callsIn_wide (n:=0)).1 ?_;refine callsIn_of_wp_marks func61 rfl trivial ?_ rfl;simp only[ntmps61,List.size_toArray,List.length_cons,List.length_nil,Nat.reduceAdd,Nat.reduceSub,Array.replicate_succ,Array.replicate_zero,List.push_toArray,List.append_toArray,List.nil_append,List.cons_append];gi_wp2_with fail;refine⟨trivial,rfl,?_⟩;refine (callsIn_wide.2 (IP _ h il.out W1 ((gd.out.keep aU.out).more (by omega)) (lF _ _ _ _ _ (lE _ _ _ _ _ uI.out aU.out) (by omega)))).mono ?_;rw[oM.out];rintro e w2 ⟨rfl,ac⟩;have aM:=ac.size;have m0:=(cl ac (by omega)).trans k0;have m1:=(cl ac (by omega)).trans k1;have m2:=(cl ac (by omega)).trans k2;have m3:=(cl ac (by omega)).trans k3;have m4:=(cl ac (by omega)).trans k4;have m5:=(cl ac (by omega)).trans k5;have m6:=(cl ac (by omega)).trans k6;have m7:=(cl ac (by omega)).trans k7;have m8:=(cl ac (by omega)).trans k8;have mz:=(cl ac (by omega)).trans kz;have aT:Hid (Boxed w2 (X+1+1) 52 (.slice none 0 0)):=jq (cR HO.out ac (by omega));have un:Hid (Boxed w2 (X+1+1+1) 37 (.int .i64 0)):=jq (cR HE.out ac (by omega));have ak:=jq (aU.out.trans (ac.mono (by omega)));clear ac an hX k0 k1 k2 k3 k4 k5 k6 k7 k8 kz
 cases r with
 | false=>
  have HN:Hid (¬ Np.VHist h):=jq (λh=>by have:=Np.bO h;rw[oM.out] at this;cases this);have y0:=aT.out.cell;have y1:=aT.out.frozen;have z0:=un.out.cell;have z1:=un.out.frozen;gi_wp2_with fail;refine⟨trivial,?_⟩;gi_wp2_with fail;obtain⟨W,hW⟩:∃ W,((w2.setCell ⟨X+1+1,0,none⟩ (.slice none 0 0)).setCell ⟨X+1+1+1,0,none⟩ (.int .i64 1))=W:=⟨_,rfl⟩;have qA:Hid (Below X w W):=jq (by rw[<-hW];exact ((ak.out.setCell (p:=⟨X+1+1,0,none⟩) (by dsimp only;omega) _).setCell (p:=⟨X+1+1+1,0,none⟩) (by dsimp only;omega) _));have e0:W.cell? ⟨X+1+1,0,none⟩=some (.slice none 0 0):=by rw[<-hW];simp[go_sem,y0]
  have e1:W.cell? ⟨X+1+1+1,0,none⟩=some (.int .i64 1):=by rw[<-hW];simp[go_sem,z0]
  rw[hW];exact ll (v:=.tuple #[.slice none 0 0,.int .i64 1]) (by simp[results,results61,go_sem,e0,e1]) ⟨.inl ⟨λh=>HN.out h.1,rfl⟩,qA.out⟩
 | true=>
  have HV:Hid (Np.VHist h):=jq (Np.fm.1 oM.out);gi_wp2_with fail;refine⟨trivial,rfl,?_⟩;refine (callsIn_wide.2 (nameValid_any z hz _)).mono ?_;rintro e w3 ⟨rfl,am⟩;have dP:=am.size;replace m0:=(cl am (by omega)).trans m0;replace m1:=(cl am (by omega)).trans m1;replace m2:=(cl am (by omega)).trans m2;replace m3:=(cl am (by omega)).trans m3;replace m4:=(cl am (by omega)).trans m4;replace m5:=(cl am (by omega)).trans m5;replace m6:=(cl am (by omega)).trans m6;replace m7:=(cl am (by omega)).trans m7;replace m8:=(cl am (by omega)).trans m8;replace mz:=(cl am (by omega)).trans mz;have gb:Hid (Boxed w3 (X+1+1) 52 (.slice none 0 0)):=jq (cR aT.out am (by omega));have Gb:Hid (Boxed w3 (X+1+1+1) 37 (.int .i64 0)):=jq (cR un.out am (by omega));have az:=jq (ak.out.trans (am.mono (by omega)));clear am
  cases fK:Np.aG z.data.toList with
  | false=>
   have lR:=jq fK;clear fK;have y0:=gb.out.cell;have y1:=gb.out.frozen;have z0:=Gb.out.cell;have z1:=Gb.out.frozen;gi_wp2_with fail;obtain⟨W,hW⟩:∃ W,((w3.setCell ⟨X+1+1,0,none⟩ (.slice none 0 0)).setCell ⟨X+1+1+1,0,none⟩ (.int .i64 1))=W:=⟨_,rfl⟩;have qA:Hid (Below X w W):=jq (by rw[<-hW];exact ((az.out.setCell (p:=⟨X+1+1,0,none⟩) (by dsimp only;omega) _).setCell (p:=⟨X+1+1+1,0,none⟩) (by dsimp only;omega) _));have e0:W.cell? ⟨X+1+1,0,none⟩=some (.slice none 0 0):=by rw[<-hW];simp[go_sem,y0]
   have e1:W.cell? ⟨X+1+1+1,0,none⟩=some (.int .i64 1):=by rw[<-hW];simp[go_sem,z0]
   rw[hW];exact ll (v:=.tuple #[.slice none 0 0,.int .i64 1]) (by simp[results,results61,go_sem,e0,e1]) ⟨.inl ⟨λh=>absurd h.2 (by rw[lR.out];simp),rfl⟩,qA.out⟩
  | true=>
   have lR:=jq fK;have bI:Hid (Np.uU h z.data.toList):=jq ⟨HV.out,fK⟩;clear fK;have hX4:X+4<=w3.heap.size:=by omega
   have pb:∀ (w:World),(Instr.makeMap 213 none).run prog w = .ok (.map (some w.heap.size)) (w.alloc (.map #[] 0)):=λw=>by
    simp[Instr.makeMap,Result.andThen]
   obtain⟨Bh,AO⟩:∃ Bh,w3.heap.size=Bh:=⟨_,rfl⟩;obtain⟨w4,bA⟩:∃ w4,(((w3.alloc (.cells #[.slice none 0 0] 52)).alloc (.cells #[.bool false] 4)).alloc (.map #[] 0)).alloc (.cells #[.map (some (Bh+1+1))] 213)=w4:=⟨_,rfl⟩;have ar:Below w3.heap.size w3 w4:=by rw[<-bA];exact ((((vQ _ _).alloc (bQ _) _).alloc (by simp) _).alloc (by simp <;> omega) _).alloc (by simp <;> omega) _
   have eC:w4.heap.size=Bh+4:=by rw[<-bA,<-AO];simp
   have v0:=(cl ar (by omega)).trans m0;have v1:=(cl ar (by omega)).trans m1;have v2:=(cl ar (by omega)).trans m2;have v3:=(cl ar (by omega)).trans m3;have v4:=(cl ar (by omega)).trans m4;have v5:=(cl ar (by omega)).trans m5;have v6:=(cl ar (by omega)).trans m6;have v7:=(cl ar (by omega)).trans m7;have v8:=(cl ar (by omega)).trans m8;have vz:=(cl ar (by omega)).trans mz;have xI:Hid (Boxed w4 (X+1+1) 52 (.slice none 0 0)):=jq (cR gb.out ar (by omega));have SQ:Hid (Boxed w4 (X+1+1+1) 37 (.int .i64 0)):=jq (cR Gb.out ar (by omega));have br:=jq (az.out.trans (ar.mono (by omega)));have Sk:Hid (Boxed w4 Bh 52 (.slice none 0 0)):=jq (by
    rw[<-bA,<-AO];exact (((Boxed.new w3 52 (.slice none 0 0)).alloc _).alloc _).alloc _)
   have Sn:Hid (Boxed w4 (Bh+1) 4 (.bool false)):=jq (by
    rw[<-bA,<-AO]
    have:=((Boxed.new (w3.alloc (.cells #[.slice none 0 0] 52)) 4 (.bool false)).alloc (.map #[] 0)).alloc (.cells #[.map (some (w3.heap.size+1+1))] 213)
    simpa using this)
   have Sg:Hid (cI (Bh+1+1) [] w4):=jq (by
    rw[<-bA,<-AO]
    have:=(cI.made ((w3.alloc (.cells #[.slice none 0 0] 52)).alloc (.cells #[.bool false] 4))).stays (w':=((((w3.alloc (.cells #[.slice none 0 0] 52)).alloc (.cells #[.bool false] 4)).alloc (.map #[] 0)).alloc (.cells #[.map (some (w3.heap.size+1+1))] 213))) (Below.heap_alloc _ _ _ (by simp))
    simpa using this)
   have Sr:Hid (Boxed w4 (Bh+1+1+1) 213 (.map (some (Bh+1+1)))):=jq (by
    rw[<-bA,<-AO]
    have:=Boxed.new (((w3.alloc (.cells #[.slice none 0 0] 52)).alloc (.cells #[.bool false] 4)).alloc (.map #[] 0)) 213 (.map (some (w3.heap.size+1+1)))
    simpa using this)
   clear m0 m1 m2 m3 m4 m5 m6 m7 m8 mz;gi_wp2_with fail;clear pb ar;refine⟨trivial,rfl,?_⟩;refine (callsIn_wide.2 (MG _ _ _ _ _ _ _ _ _ 138 #[.pointer (some ⟨X+1,0,none⟩)] w4)).mono ?_;rintro e w6 ⟨rfl,bN⟩;have gI:w6.heap.size=Bh+6:=by rw[bN];simp;omega
   have aO:Below w4.heap.size w4 w6:=by rw[bN];exact ((vQ _ _).alloc (bQ _) _).alloc (by simp) _
   have kX:w6.cell? ⟨Bh+4,1,none⟩=some (.slice A2 n2 c2):=by rw[bN,<-eC];simp[go_sem]
   have kO:w6.cell? ⟨Bh+4+1,0,none⟩=some (.func (.func 138) #[] #[.pointer (some ⟨X+1,0,none⟩)]):=by rw[bN,show Bh+4+1=w4.heap.size+1 by omega];simp[go_sem]
   rw[eC];obtain⟨L,g9,mJ,oT⟩:=MR (H4.out.keep kk (br.out.trans (aO.mono (by omega))));have sL:=jq ((cl aO (by omega)).trans vz);have uv:=jq (MH L (λx=>x.1.str.data.toList == z.data.toList) 138 #[.pointer (some ⟨X+1,0,none⟩)] (Bh+4) (Bh+4+1) n2 c2 (λk=>k<w6.heap.size/\¬ (k=Bh\/k=Bh+1\/k=Bh+1+1)) A2 w6 ⟨by omega,by omega⟩ ⟨by omega,by omega⟩ kX kO mJ (by have:=il.out.1;have:=nA.out;omega)
    (λi x hx=>by
      obtain⟨_,b,o,h1,h2,h3⟩:=oT i x hx;exact⟨b,o,h1,⟨by omega,by omega⟩,h3⟩) VX
    (λx hx W hW=>by
      have h1:=(hW.cell (p:=⟨X+1,0,none⟩) ⟨by dsimp only;omega,by dsimp only;omega⟩).trans sL.out
      have:=hW.1
      exact ajY x.1.host x.1.frm x.1.til x.1.str _ x.1.A x.1.n x.1.c rfl (X+1) z W (by omega) h1))
   have oG:Hid (Boxed w6 (X+1+1) 52 (.slice none 0 0)):=jq (cR xI.out aO (by omega));have SS:Hid (Boxed w6 (X+1+1+1) 37 (.int .i64 0)):=jq (cR SQ.out aO (by omega));have Sl:Hid (Boxed w6 Bh 52 (.slice none 0 0)):=jq (cR Sk.out aO (by omega));have So:Hid (Boxed w6 (Bh+1) 4 (.bool false)):=jq (cR Sn.out aO (by omega));have Sh:Hid (cI (Bh+1+1) [] w6):=jq (Sg.out.keep aO (by omega));have Ss:Hid (Boxed w6 (Bh+1+1+1) 213 (.map (some (Bh+1+1)))):=jq (cR Sr.out aO (by omega));have dh:=jq (br.out.trans (aO.mono (by omega)));have kY:=jq g9;have lO:Hid (∀ x∈L,CVOf w6 X x.1 x.2):=jq (λx hx=>by obtain⟨i,hi⟩:=List.mem_iff_getElem?.1 hx;exact (oT i x hi).1);clear aO bN bA kX kO g9 oT v0 v1 v2 v3 v4 v5 v6 v7 v8 vz;have Ha:=jq gI;gi_wp2_with fail;refine Fp (Dr:=λk=>k<w6.heap.size/\¬ (k=Bh\/k=Bh+1\/k=Bh+1+1)) (w0:=w6) (first:=#[]) (captured:=#[.pointer (some ⟨Bh+4,0,none⟩),.pointer (some ⟨Bh+4+1,0,none⟩)]) (gf:=141) rfl MX (mk:=λy=>#[y,.pointer (some ⟨Bh+4,0,none⟩),.pointer (some ⟨Bh+4+1,0,none⟩)]) (λ_=>rfl)
    uv.out (dU.refl λk e=>e.1) (λ_=>rfl) (Dq w6 Bh (Bh+1) (Bh+1+1) z) (λ_ _ _ _=>False)
    (Qr _ _ _ _ _) (λc s S W W' h _=>h)
    (λk=>k=Bh\/k=Bh+1\/k=Bh+1+1) (λk h1 h2=>h2.2 h1) (by intro k h;omega)
    ⟨[],.slice none 0 0,λk=>k=Bh\/k=Bh+1\/k=Bh+1+1\/¬ (k=Bh\/k=Bh+1\/k=Bh+1+1),.inl rfl,.inr (.inl rfl),.inr (.inr rfl),(λk e=>by rcases e with e | ⟨x,hx,_⟩;cases e;cases hx),(λk e=>by omega),(λk e=>.inr (.inr (.inr e))),.inl rfl,.inr (.inl rfl),.inr (.inr (.inl rfl)),Sl.out,So.out,Sh.out,PubR.nil _ _ _ _,rfl,RdStep.refl _ _⟩ ?round ?done ?stop
   case stop=>
    rintro D c pre S W hD fu bd fI h hK;exact h.elim
   case done=>
    rintro D S W hD fu bd ⟨us,ov,M,D1,AX,D0,hown,oV,AV,mbo,mbt,mbm,tj,rq,th,yd,yu,aJ⟩ hK;obtain⟨te,Jl⟩:∃ te,(L.filter λx=>x.1.str.data.toList == z.data.toList).isEmpty=te:=⟨_,rfl⟩;have K2:Hid (Np.xT h z.data.toList↔te=false):=jq (by
     rw[<-Jl,List.isEmpty_eq_false_iff_exists_mem];constructor
     ·rintro⟨c,hc,hz⟩;rw[<-kY.out] at hc;obtain⟨x,hx,rfl⟩:=List.mem_map.1 hc;exact⟨x,List.mem_filter.2 ⟨hx,by rw[(lO.out x hx).apex,hz];simp⟩⟩
     ·rintro⟨x,hx⟩;obtain⟨h1,h2⟩:=List.mem_filter.1 hx;refine⟨x.2,by rw[<-kY.out];exact List.mem_map.2 ⟨x,h1,rfl⟩,?_⟩;rw[<-(lO.out x h1).apex];simpa using h2)
    rw[Jl] at rq;have k9:Hid (us.map (λx=>(x.1,x.2.1))=Np.ej (Np.de h.copies z.data.toList)):=jq (by rw[yu,MI lO.out,kY.out]);have tf:=aJ.size;have KV:Hid (D<W.heap.size):=jq (eQ.1 hK).1;have rl:Below X w6 W:=aJ.below (by omega) (λk e=>by omega);have KJ:Hid (Below X w W):=jq (dh.out.trans (rl.mono (by omega)));have fP:Hid (Boxed W (X+1+1) 52 (.slice none 0 0)):=jq ((aJ.keep (X+1+1) (by omega) (by omega)).trans oG.out);have qN:Hid (Boxed W (X+1+1+1) 37 (.int .i64 0)):=jq ((aJ.keep (X+1+1+1) (by omega) (by omega)).trans SS.out);have FL:=jq tj;have qZ:=jq fu;have eJ:=jq oV;have CZ:=jq hK;have GM:=jq (PubK.start yd AV hown);have t0:=rq.cell;clear Jl yu aJ rl tj rq th yd AV hown oV fu hK mbo mbt mbm D1 AX D0 bd;have nP:X+1+1≠D:=by omega
    have DU:X+1+1+1≠D:=by omega
    cases te with
    | true=>
     simp only[Bool.not_true] at t0;have o0:=fP.out.cell;have o1:=fP.out.frozen;have q0:=qN.out.cell;have q1:=qN.out.frozen;gi_wp2_with fail;obtain⟨W',hW'⟩:∃ W',((W.setCell ⟨X+1+1,0,none⟩ (.slice none 0 0)).setCell ⟨X+1+1+1,0,none⟩ (.int .i64 4))=W':=⟨_,rfl⟩;have wD:W'.heap.size=W.heap.size:=by rw[<-hW'];simp
     have pZ:∀ k,k≠X+1+1->k≠X+1+1+1->W'.heap[k]?=W.heap[k]?:=λk h1 h2=>by rw[<-hW'];exact (wQ _ _ _ k h2).trans (wQ _ _ _ k h1)
     have AM:Below X w W':=by rw[<-hW'];exact ((KJ.out.setCell (p:=⟨X+1+1,0,none⟩) (by dsimp only;omega) _).setCell (p:=⟨X+1+1+1,0,none⟩) (by dsimp only;omega) _)
     have nY:W'.os=W.os/\W'.tape=W.tape/\W'.output=W.output:=by rw[<-hW'];simp[World.setCell]
     have AR:W'.heap[D]?=some (.deferred (some [])):=(pZ D (Ne.symm nP) (Ne.symm DU)).trans CZ.out;have e0:W'.cell? ⟨X+1+1,0,none⟩=some (.slice none 0 0):=by rw[<-hW'];simp[go_sem,o0]
     have e1:W'.cell? ⟨X+1+1+1,0,none⟩=some (.int .i64 4):=by rw[<-hW'];simp[go_sem,q0]
     have f0:=(iQ (w:=W') (w':=W'.putObj D (.deferred none)) (a:=⟨X+1+1,0,none⟩) (zQ nP)).trans e0;have f1:=(iQ (w:=W') (w':=W'.putObj D (.deferred none)) (a:=⟨X+1+1+1,0,none⟩) (zQ DU)).trans e1;rw[hW'];refine nN AR (v:=.tuple #[.slice none 0 0,.int .i64 4]) (by simp[results,results61,go_sem,f0,f1]) ⟨.inr ⟨bI.out,.inl ⟨(λh=>by have:=K2.out.1 h;cases this),rfl⟩⟩,nL AM (by omega) _⟩
    | false=>
     simp only[Bool.not_false] at t0;obtain⟨n,hn⟩:∃ n,us.length=n:=⟨_,rfl⟩;obtain⟨oA,oc,rfl⟩:=GM.out.rows.row.formN hn;have Lk:=jq hn;have b0:=FL.out.cell;obtain⟨PS,DW⟩:∃ PS,Np.de h.copies z.data.toList=PS:=⟨_,rfl⟩;have oJ:=jq DW;rw[DW] at k9;have Lg:Hid ((Np.ej PS).length=n):=jq (by rw[<-k9.out,List.length_map];exact hn);have I0:n<=5000:=by rw[<-hn];have h1:=PY k9.out;have h2:=oI.out;rw[DW] at h2;omega
     clear hn DW;gi_wp2_with fail;gi_loopw [83] (λI wr=>∃ (i:Nat) (us':List PT) (ov':Value) (M':Nat->Prop),i<=n/\I = .int .i64 i/\W.heap.size<=wr.heap.size/\Hid (us'.length=n)/\Hid (Boxed wr Bh 52 ov')/\Hid (PubK S W w6.heap.size z M' us' ov' wr)/\Hid (us'.map (λx=>(x.1,x.2.1))=qm (Np.ej PS) i)) (λI _=>n - (intOf I).toNat)
     case atStart=>exact⟨0,us,_,_,jQ _,rfl,bQ _,Lk,FL,GM,jq (by rw[afY];exact k9.out)⟩
     case round=>
      clear FL GM k9 Lk b0 t0;obtain⟨i,us',ov',M',hi,rfl,Pn,xH,xm,gw,GA⟩:=hrel;by_cases aa:i<n
      ·obtain⟨g,cap,rfl,dL,BA,vK⟩:=gw.out.rows.row.formSome xH.out (by omega);have K4:Hid (i<(Np.ej PS).length):=jq (by rw[Lg.out];exact aa);obtain⟨⟨xs,xt,xv⟩,hx,hl⟩:=P6 GA.out K4.out;dsimp only at hl;have EB:=Np.PZ hl;have tI:aK w6.heap.size wr xv xt:=gw.out.rows.fresh _ (gQ hx);have CU:Hid (SlR cV 2 wr wr.heap.size xv xt):=jq (tI.slr (by have h1:=Np.J6 PS xs;rw[<-EB] at h1;have h2:=oI.out;rw[oJ.out] at h2;omega));have T0:Hid (∀ s∈xt,Np.Ak s):=jq (λs hs=>Np.alJ (h:=h) (zone:=z.data.toList) (s:=xs) (by rw[oJ.out,<-EB];exact hs) HV.out);have T7:Hid (xt.length<=20000):=jq (by have h1:=Np.J6 PS xs;rw[<-EB] at h1;have h2:=oI.out;rw[oJ.out] at h2;omega);have HX:=jq hx;obtain⟨fA,fc,rfl⟩:=aK.form tI;have f6:wr.cell? ⟨g,i * 8+6,none⟩=some (.slice fA xt.length fc):=II gw.out.rows.row hx;obtain⟨fn,iT⟩:∃ fn,xt.length=fn:=⟨_,rfl⟩;rw[iT] at f6 HX CU;have b6:=xm.out.cell;have ph:(0:Int)<=(i:Int):=by omega
       have kf:(i:Int)<(n:Int):=by omega
       clear hx hl EB tI iT vK;gi_wp2_with fail;refine zi λa0 cB=>?_;have mv:=jq cB;have jc:=jq (show a0.eval (.tmp 6) = .pointer (some ⟨Bh,0,none⟩) by rw[cB];rfl);have Kt:=jq (show a0.eval (.tmp 15) = .int .i64 (i:Nat) by rw[cB];rfl);have HM:=jq (show a0.tmps.size=101 by rw[cB];rfl);clear cB;refine wpIn_wide.2 (wp_region_any (by kernel_rfl) ?_);refine RO (w:=wr.drew) (D:=[0,1,2,3,4,5,6,11,12]) (A:=[]) (p:=7) (dst:=lC) (val:=no g n cap i fA fn fc undef) (m:=101)
        (base:=dS a0 101 JN) (Kg (by kernel_rfl)) (by simp) (by simp) (ij (by kernel_rfl)) ?_
        (λi hi=>(yT i (by simp at hi |-;omega)).1) (λi hi j hj=>EU i (by simp at hi |-;omega) j (by simp at hj |-;omega)) (λi hi=>cZ (yT i (by simp at hi |-;omega)).2) ?_ ?_ _ _ _ (Held.start (λq hq=>wT q hq) HM.out)
       ·intro i hi aH;simp only[List.mem_cons,Qh,or_false] at hi;rcases hi with rfl | rfl | rfl | rfl | rfl | rfl | rfl | rfl | rfl
        all_goals first | (exfalso;simp at aH;done) | exact⟨_,rfl,rfl⟩
       ·intro i hi aH o ho a' hb aY;have k6':=(bG hb (j:=6) (by decide) (by decide)).trans jc.out;have k15':=(bG hb (j:=15) (by decide) (by decide)).trans Kt.out;simp[Act.eval] at k6' k15';simp only[List.mem_cons,Qh,or_false] at hi;rcases hi with rfl | rfl | rfl | rfl | rfl | rfl | rfl | rfl | rfl
        all_goals first
         | (exfalso;simp at aH;done)
         | (cases ho
            try simp[Act.eval,Region.binds,no,lC] at aY
            refine .inl ⟨by simp[Region.wanted],λw' hw'=>?_⟩;subst hw';simp[Oper.quietAt,Oper.quietUpon,execOp,go_sem,no,k6',k15',b6,f6,ph,kf,Cu,EV,aY])
       ·intro f listed a' hH hr;obtain⟨_,o,ho,aA⟩:=mem_ready.1 hr
        cases ho
        have hG:=hH.good;have hval:=λi hi hl=>hG.val i hi hl;have bS:∀ k,({ on:=k,ground:=.data } : Edge)∈_->listed.getD k false=true:=λk hk=>aA _ hk rfl;have av6:=hval 6 (by simp) (bS 6 (by simp));simp[Act.eval,no,lC] at av6;simp only[wpOp];simp[Region.wanted];refine .inl ?_;simp[Oper.wp,go_sem,av6];refine (P4 _ xt T7.out T0.out wr.drew (CU.out.keep dT (vQ wr.heap.size wr).drew)).mono ?_;rintro e wC ⟨v2,rfl,ig,Bg⟩;have jp:Below wr.heap.size wr wC:=(vQ wr.heap.size wr).drew.trans Bg;have Zs:=jp.size;replace b6:=(cl jp (by omega)).trans b6;replace f6:=(cl jp (by omega)).trans f6;have tq:=(World.frozen?_of_block (a:=⟨g,i * 8+6,none⟩) (jp.block g (by omega))).trans (gw.out.rows.row.frozenAt xH.out _);obtain⟨gA,gc,rfl⟩:=aK.form ig;obtain⟨gn,iB⟩:∃ n,(Np.cP xt).length=n:=⟨_,rfl⟩;rw[iB] at ig |-;have aT:=jq ig;have ik:=jq jp;clear ig jp Bg iB;dsimp only;refine RO (w:=wC) (D:=[0,1,2,3,4,5,6,8,9,10,11,12,7]) (A:=[7]) (p:=13) (dst:=lC) (val:=no g n cap i fA fn fc (.tuple #[.slice gA gn gc,.int .i64 0])) (m:=101)
         (base:=dS a0 101 JN) (Kg (by kernel_rfl)) (by simp) (by simp) (ij (by kernel_rfl)) ?_
         (λi hi=>(yT i (by simp at hi |-;omega)).1) (λi hi j hj=>EU i (by simp at hi |-;omega) j (by simp at hj |-;omega)) (λi hi=>cZ (yT i (by simp at hi |-;omega)).2) ?_ ?_ _ _ _ (hH.act (D':=[0,1,2,3,4,5,6,8,9,10,11,12,7]) (val':=no g n cap i fA fn fc (.tuple #[.slice gA gn gc,.int .i64 0])) hr (by simp) (λi hi=>by simp at hi |-;omega) (λi hi=>by simp at hi;rcases hi with rfl | rfl | rfl | rfl | rfl | rfl | rfl | rfl | rfl <;> rfl) rfl (by simp[lC]) (λj hj=>EU 7 (by simp) j (by simp at hj |-;omega) (by rintro rfl;simp at hj)) (cZ (yT 7 (by simp)).2) (by simp))
        ·intro i hi aH;simp only[List.mem_cons,Qh,or_false] at hi;rcases hi with rfl | rfl | rfl | rfl | rfl | rfl | rfl | rfl | rfl | rfl | rfl | rfl | rfl
         all_goals first | (exfalso;simp at aH;done) | exact⟨_,rfl,rfl⟩
        ·intro i hi aH o ho a' hb aY;have k6':=(bG hb (j:=6) (by decide) (by decide)).trans jc.out;have k15':=(bG hb (j:=15) (by decide) (by decide)).trans Kt.out;simp[Act.eval] at k6' k15';simp only[List.mem_cons,Qh,or_false] at hi;rcases hi with rfl | rfl | rfl | rfl | rfl | rfl | rfl | rfl | rfl | rfl | rfl | rfl | rfl
         all_goals first
          | (exfalso;simp at aH;done)
          | (cases ho
             try simp[Act.eval,Region.binds,no,lC] at aY
             refine .inl ⟨by simp[Region.wanted],λw' hw'=>?_⟩;subst hw';simp[Oper.quietAt,Oper.quietUpon,execOp,go_sem,no,k6',k15',b6,f6,ph,kf,Cu,EV,aY])
        ·intro f listed a' hH hr;obtain⟨_,o,ho,aA⟩:=mem_ready.1 hr
         cases ho
         have hG:=hH.good;have hval:=λi hi hl=>hG.val i hi hl;have bS:∀ k,({ on:=k,ground:=.data } : Edge)∈_->listed.getD k false=true:=λk hk=>aA _ hk rfl;have av9:=hval 9 (by simp) (bS 9 (by simp));have av12:=hval 12 (by simp) (bS 12 (by simp));simp[Act.eval,no,lC,Cu] at av9 av12;simp only[wpOp];simp[Region.wanted];refine .inl ?_;simp[Oper.wp,execOp,go_sem,av9,av12,f6,tq];clear b6 f6 tq;obtain⟨W',hW'⟩:∃ W',wC.setCell ⟨g,i * 8+6,none⟩ (.slice gA gn gc)=W':=⟨_,rfl⟩;have CY:=jq (gw.out.normed xH.out HX.out (ps':=Np.cP xt) ik.out aT.out (by have:=gw.out.rd.size;omega));rw[hW'] at CY |-;have eR:Below w6.heap.size wr W':=by rw[<-hW'];exact (ik.out.mono (by have:=gw.out.rd.size;omega)).setCell (by dsimp only;omega) _
         have sG:Hid (Boxed W' Bh 52 (.slice (some ⟨g,0,none⟩) n cap)):=jq (cR xm.out eR (by omega));clear eR;have EI:W'.heap.size=wC.heap.size:=by rw[<-hW'];simp[World.setCell]
         refine aJZ (R:=[10]) (D:=[0,1,2,3,4,5,6,8,9,10,11,12,7]) (dst:=lC) (val:=no g n cap i fA fn fc (.tuple #[.slice gA gn gc,.int .i64 0])) (a0:=a0) (m:=101) HM.out (Kg (by kernel_rfl)) (by simp) (λi hi=>?_) (λi hi=>by simp at hi;subst hi;exact⟨_,rfl,rfl⟩) (λi hi=>(yT i hi).1) EU (λi hi o ho e he hb=>?_) (λi hi o ho a' aY=>?_) ?_ _ _ _ (hH.rest hr (by simp) (by kernel_rfl))
         ·simp at hi |-;omega
         ·simp at hi;subst hi
          cases ho
          simp at he;rcases he with rfl | rfl
          ·simp
          ·simp[Region.binds] at hb
         ·simp at hi;subst hi
          cases ho
          simp[Act.eval,Region.binds,no,lC] at aY;refine .inl ⟨by simp[Region.wanted],λw' hw'=>?_⟩;subst hw';simp[Oper.quietAt,Oper.quietUpon,execOp,go_sem,no,Cu,EV,aY]
         ·rw[mv.out];simp[lD,Act.put,no,lC];clear hval bS aA hG hH;gi_wp2_with fail;go_roundw
          case measure=>simp[intOf] <;> omega
          case rel=>exact⟨i+1,_,_,_,by omega,by go_num,by omega,jq (by rw[List.length_set];exact xH.out),sG,CY,jq (afX GA.out K4.out HX.out _)⟩
      ·obtain rfl:i=n:=by omega
       obtain⟨oA',oc',rfl⟩:=gw.out.rows.row.formN xH.out;have b0:=xm.out.cell;have Nu:¬ S (X+1+1):=λe=>by have:=eJ.out _ e;omega
       have Ic:¬ S (X+1+1+1):=λe=>by have:=eJ.out _ e;omega
       have C8:Hid (Boxed wr (X+1+1) 52 (.slice none 0 0)):=jq ((gw.out.rd.keep (X+1+1) (by omega) Nu).trans fP.out);have KX:Hid (Boxed wr (X+1+1+1) 37 (.int .i64 0)):=jq ((gw.out.rd.keep (X+1+1+1) (by omega) Ic).trans qN.out);have pF:Hid (wr.heap[D]?=some (.deferred (some []))):=jq ((gw.out.rd.keep D KV.out qZ.out).trans CZ.out);have bH:Hid (Below X w wr):=jq (KJ.out.trans (gw.out.rd.below (by omega) (λk e=>by have:=eJ.out k e;omega)));have o0:=C8.out.cell;have o1:=C8.out.frozen;have q0:=KX.out.cell;have q1:=KX.out.frozen;gi_wp2_with fail;obtain⟨W',hW'⟩:∃ W',((wr.setCell ⟨X+1+1,0,none⟩ (.slice oA' i oc')).setCell ⟨X+1+1+1,0,none⟩ (.int .i64 0))=W':=⟨_,rfl⟩;have wD:W'.heap.size=wr.heap.size:=by rw[<-hW'];simp
       have pZ:∀ k,k≠X+1+1->k≠X+1+1+1->W'.heap[k]?=wr.heap[k]?:=λk h1 h2=>by rw[<-hW'];exact (wQ _ _ _ k h2).trans (wQ _ _ _ k h1)
       have AM:Below X w W':=by rw[<-hW'];exact ((bH.out.setCell (p:=⟨X+1+1,0,none⟩) (by dsimp only;omega) _).setCell (p:=⟨X+1+1+1,0,none⟩) (by dsimp only;omega) _)
       have nY:W'.os=wr.os/\W'.tape=wr.tape/\W'.output=wr.output:=by rw[<-hW'];simp[World.setCell]
       have AR:W'.heap[D]?=some (.deferred (some [])):=(pZ D (Ne.symm nP) (Ne.symm DU)).trans pF.out;have e0:W'.cell? ⟨X+1+1,0,none⟩=some (.slice oA' i oc'):=by rw[<-hW'];simp[go_sem,o0]
       have e1:W'.cell? ⟨X+1+1+1,0,none⟩=some (.int .i64 0):=by rw[<-hW'];simp[go_sem,q0]
       have f0:=(iQ (w:=W') (w':=W'.putObj D (.deferred none)) (a:=⟨X+1+1,0,none⟩) (zQ nP)).trans e0;have f1:=(iQ (w:=W') (w':=W'.putObj D (.deferred none)) (a:=⟨X+1+1+1,0,none⟩) (zQ DU)).trans e1;rw[hW'];have yo:∀ k,k≠X+1+1->k≠X+1+1+1->k≠D->(W'.putObj D (.deferred none)).heap[k]?=wr.heap[k]?:=λk h1 h2 h3=>(zQ h3).trans (pZ k h1 h2);have yL:(W'.putObj D (.deferred none)).heap.size=wr.heap.size:=by simpa using wD
       have C9:=jq (gw.out.calm (T:=λk=>k=X+1+1\/k=X+1+1+1\/k=D) (λk e=>by
        rcases e with rfl | rfl | rfl
        ·exact⟨by omega,Nu⟩
        ·exact⟨by omega,Ic⟩
        ·exact⟨KV.out,qZ.out⟩) (w':=W'.putObj D (.deferred none)) nY yL (λk hk=>yo k (λe=>hk (.inl e)) (λe=>hk (.inr (.inl e))) (λe=>hk (.inr (.inr e)))))
       refine nN AR (v:=.tuple #[.slice oA' i oc',.int .i64 0]) (by simp[results,results61,go_sem,f0,f1]) ⟨.inr ⟨bI.out,.inr ⟨(by have h1:=K2.out;simpa using h1),_,rfl,?_⟩⟩,nL AM (by omega) _⟩;intro Mq yb;have tV:=xH.out;have OA:us'.map (λx=>(x.1,x.2.1))=(Np.ej PS).map λx=>(x.1,Np.cP x.2):=by rw[GA.out,afK Lg.out]
       have Yv:(us'.map λx=>(⟨z.data.toList,x.1,x.2.1,[]⟩:Np.Held))=Np.pub h.copies z.data.toList:=by
        have h1:=Qd (List.map λx:Np.Signed×List Np.Span=>(⟨z.data.toList,x.1,x.2,[]⟩:Np.Held)) OA;rw[List.map_map,List.map_map] at h1;refine Eq.trans h1 ?_;rw[<-oJ.out];exact (Np.acJ Np.cP _ _).symm
       rw[<-Yv];exact C9.out.slr hz (by omega) (λx hx=>by
        have h1:(x.1,x.2.1)∈us'.map (λx=>(x.1,x.2.1)):=List.mem_map.2 ⟨x,hx,rfl⟩;rw[OA] at h1;obtain⟨y,hy,he⟩:=List.mem_map.1 h1;simp only[Prod.mk.injEq] at he;rw[<-he.2];obtain⟨j,hj⟩:=List.mem_iff_getElem?.1 hy;have h2:=ql y.2;have h3:=Np.J6 PS y.1;rw[<-Np.PZ hj] at h3;have h4:=oI.out;rw[oJ.out] at h4;omega) (λk hk=>by
        have h1:=yb k hk;refine⟨gw.out.ex k (by omega) (λe=>by have:=eJ.out k e;omega),λe=>by have:=(C9.out.lt e).1;omega⟩)
   case round=>
    rintro l0 pre ⟨⟨xh,xf,xt,xs,xA,xn,xc⟩,cc⟩ S W bw hI eu;have uP:Hid ((⟨⟨xh,xf,xt,xs,xA,xn,xc⟩,cc⟩:CV×Np.Copy)∈L):=jq ((List.mem_filter.1 (bw.subset (by simp:(⟨⟨xh,xf,xt,xs,xA,xn,xc⟩,cc⟩:CV×Np.Copy)∈_))).1);have lW:=akK hI ((vQ _ W).alloc (bQ _) (.cells #[.int .i64 xh,.int .i64 xf,.int .i64 xt,.string xs,.slice xA xn xc] 46));have tf:w6.heap.size<=W.heap.size:=by obtain⟨_,_,_,_,_,_,_,_,_,_,_,_,_,_,_,_,_,hB⟩:=hI;exact hB.size
    have sP:=jq bw;clear hI bw;gi_wp2;refine⟨λk=>S k\/k=W.heap.size,(RdStep.refl S W).alloc _,λk e=>e.imp id (λh=>by omega),λk e=>by rcases e with e | e;have:=eu k e;simp;omega;simp;omega,?_⟩;intro l W₂ av;have Ie:=Qr w6 Bh (Bh+1) (Bh+1+1) z pre S _ W₂ lW (av.weaken (bQ _) (λk e=>.inl e));have jA:=av.size;simp only[World.size_alloc] at jA;have gi:W₂.heap[W.heap.size]?=some (.cells #[.int .i64 xh,.int .i64 xf,.int .i64 xt,.string xs,.slice xA xn xc] 46):=(av.keep W.heap.size (by simp) (.inr (.inr rfl))).trans (heap_alloc_new _ _);obtain⟨us,ov,M,D1,AX,D0,hown,oV,AV,mbo,mbt,mbm,tj,rq,th,yd,yu,aJ⟩:=Ie;have TY:Hid (∀ k,S k->k<W.heap.size):=jq eu;have eJ:=jq oV;have sU:=jq (And.intro D1 (And.intro AX D0));have py:Hid (CVOf w6 X ⟨xh,xf,xt,xs,xA,xn,xc⟩ cc):=jq (lO.out _ uP.out);have rl:Below X w6 W₂:=aJ.below (by omega) (λk e=>by omega);have Sb:=jq (dh.out.trans rl);have sR:=jq aJ;obtain⟨sets,nZ⟩:∃ sets,cc.zone.sets=sets:=⟨_,rfl⟩;have sS:=jq nZ;have G0:Hid (SlR bk 5 W₂ X (.slice xA xn xc) sets):=jq (by have:=(py.out.keep rl).sets;rw[nZ] at this;exact this);have yI:sets.length=xn:=by rw[<-nZ];exact py.out.len
    have uR:=jq yI;have tk:cc∈h.copies:=by rw[<-kY.out];exact List.mem_map.2 ⟨_,uP.out,rfl⟩
    have kq:=jq tk;have Zi:xn<=20000:=by rw[<-yI,<-nZ];exact il.out.2 cc tk
    have Nr:Np.jF cc=⟨xf,xt⟩:=by
     have h1:=py.out.frm;have h2:=py.out.til;dsimp only at h1 h2;unfold Np.jF;rw[h1,h2]
    obtain⟨PP,Il⟩:∃ PP,(pre.map (·.2)).flatMap Np.oe=PP:=⟨_,rfl⟩;rw[Il] at yu;have pw:Hid (((pre ++ [((⟨xh,xf,xt,xs,xA,xn,xc⟩,cc):CV×Np.Copy)]).map (·.2)).flatMap Np.oe=PP++sets.map λs=>((⟨xf,xt⟩:Np.Span),s)):=jq (by
     rw[List.map_append,List.flatMap_append,Il];simp[Np.oe,Nr,nZ])
    have LK:Hid (∃ c,Np.de h.copies z.data.toList=(PP++sets.map λs=>((⟨xf,xt⟩:Np.Span),s))++c):=jq (by
     obtain⟨c,hc⟩:=aiY sP.out;rw[pw.out,MI lO.out,kY.out] at hc;exact⟨c,hc⟩)
    have Ls:Hid (∀ j,(psP PP ⟨xf,xt⟩ sets j).length<=5000):=jq (λj=>by
     obtain⟨c,hc⟩:=LK.out;have h1:=Qd List.length hc;have h2:=ajZ PP ⟨xf,xt⟩ sets j;have h3:=oI.out;rw[List.length_append] at h1;omega)
    have TF:Hid (∀ j,∀ p∈psP PP ⟨xf,xt⟩ sets j,Np.Plain47 p.2):=jq (λj p hp=>by
     obtain⟨c,hc⟩:=LK.out;have h1:p∈Np.de h.copies z.data.toList:=by rw[hc];exact List.mem_append.2 (.inl (ajJ hp))
     obtain⟨d,hd,_,hs,_⟩:=Np.wH.1 h1;exact Np.Kq (HV.out.each d hd).zone hs (G3.out d hd _ hs))
    obtain⟨w7,rT⟩:∃ w7,W₂.setCell ⟨Bh+1,0,none⟩ (.bool true)=w7:=⟨_,rfl⟩;have t7:Turned (Bh+1) W₂ w7:=by rw[<-rT];exact⟨rfl,rfl,rfl,by simp[World.setCell],λi hi=>wQ _ _ _ _ hi⟩
    have po:w7.heap.size=W₂.heap.size:=t7.size;have Xl:=rq.cell;have Xm:=rq.frozen;have KG:Hid (Boxed w7 (Bh+1) 4 (.bool true)):=jq (by rw[<-rT];exact rq.set _);have KD:Hid (Boxed w7 Bh 52 ov):=jq ((t7.block Bh (by omega)).trans tj);have KB:Hid (cI (Bh+1+1) (Np.ni (us.map (·.1))) w7):=jq (th.stays (t7.block _ (by omega)));have kV:=jq gi;have NS:=(t7.block W.heap.size (by omega)).trans gi;have K6:Hid (PubK S W₂ w6.heap.size z (λk=>M k/\k<W₂.heap.size) us ov w7):=jq ((PubK.start yd AV hown).touch ⟨mbt,rq.lt⟩ (.inl AX) (λe=>by have:=(yd.lt e).1;omega) t7);have Ea:w7.cell? ⟨W.heap.size,4,none⟩=some (.slice xA xn xc):=by simp[World.cell?,NS]
    have L2:Hid (W₂.heap[X+1]?=w6.heap[X+1]?/\W₂.heap[Bh+1+1+1]?=w6.heap[Bh+1+1+1]?):=jq ⟨aJ.keep _ (by omega) (by omega),aJ.keep _ (by omega) (by omega)⟩;have Lf:Hid ((M Bh/\Bh<W₂.heap.size)/\(M (Bh+1+1)/\Bh+1+1<W₂.heap.size)/\(M (Bh+1)/\Bh+1<W₂.heap.size)):=jq ⟨⟨mbo,by omega⟩,⟨mbm,by omega⟩,⟨mbt,by omega⟩⟩;have Lh:=jq yu;have hXW:X+4<=Bh:=by omega
    have AL:Bh+6<=W.heap.size:=by omega
    have In:W.heap.size<W₂.heap.size:=by omega
    have NR:¬ S W.heap.size:=λe=>by have:=eu _ e;omega
    have CP:=jq NR;clear Il nZ tj rq th yd yu aJ t7 gi NS lW av eu oV AV mbo mbt mbm hown D1 AX D0 rl Nr tk NR;gi_wp2_with fail;clear rT Ea Xl Xm;obtain⟨ih,XW,XQ,XR,XS⟩:=info_parts Tryz.infoHeldA;gi_loopw [33] (λi wr=>∃ (j:Nat) (us:List PT) (ov:Value) (M:Nat->Prop),j<=xn/\i = .int .i64 j/\W₂.heap.size<=wr.heap.size/\Hid (Boxed wr Bh 52 ov)/\Hid (Boxed wr (Bh+1) 4 (.bool true))/\Hid (cI (Bh+1+1) (Np.ni (us.map (·.1))) wr)/\Hid (PubK S W₂ w6.heap.size z M us ov wr)/\Hid (M Bh/\M (Bh+1+1)/\M (Bh+1))/\Hid (us.map (λx=>(x.1,x.2.1))=Np.ej (psP PP ⟨xf,xt⟩ sets j))) (λi _=>xn - (intOf i).toNat)
    case atStart=>exact⟨0,us,ov,_,jQ _,rfl,by omega,KD,KG,KB,K6,Lf,jq (by rw[ajX];exact Lh.out)⟩
    case round=>
     clear KD KG KB K6 Lf Lh po;obtain⟨j,us,ov,M,hj,rfl,Pn,xm,KI,KC,gw,gM,k9⟩:=hrel;have bH:Hid (Below X w wr):=jq (Sb.out.trans (gw.out.rd.below (by omega) (λk e=>by have:=eJ.out k e;omega)));have uy:Hid (∀ k,k<W₂.heap.size->¬ S k->wr.heap[k]?=W₂.heap[k]?):=jq gw.out.rd.keep;by_cases aa:j<xn
     ·obtain⟨x,ab⟩:∃ x,sets[j]?=some x:=⟨_,aQ (by rw[uR.out];exact aa)⟩;obtain⟨b',o,c',ss,dv,sv,hA,hb',_,hs,B4,aV,aR,e0,e1,e2,e3,e4⟩:=eV (G0.out.keep ba (gw.out.rd.below (n:=X) (by omega) (λk e=>by have:=eJ.out k e;omega))) ab;simp only[Value.slice.injEq] at hA;obtain⟨rfl,-,rfl⟩:=hA;have kN:x∈cc.zone.sets:=by rw[sS.out];exact gQ ab
      have Gp:Hid (KeyS x):=jq (R2 (HV.out.each cc kq.out).zone kN (G3.out cc kq.out x kN));have Lv:Hid (Np.Plain47 x):=jq (Np.Kq (HV.out.each cc kq.out).zone kN (G3.out cc kq.out x kN));have dI:Hid (psP PP ⟨xf,xt⟩ sets (j+1)=psP PP ⟨xf,xt⟩ sets j ++ [(⟨xf,xt⟩,x)]):=jq (ajK ab);have jM:=jq (And.intro hs B4);have LX:Hid ((⟨⟨ss.data.toList,x.set.type,x.set.life,x.set.data⟩,x.sigs⟩:Np.Signed)=x):=jq (by rw[hs]);have um:Hid (x.set.data.length<=1000/\x.sigs.length<=1000):=jq (by have h1:=Gp.out.few;have h2:=Gp.out.fewS;omega);have kr:Hid (∀ W',Below X wr W'->SlR bF 3 W' W'.heap.size dv x.set.data):=jq (λW' hb=>(aV.keep cH hb).more du (by have:=hb.size;omega));have xC:Hid (∀ W',Below X wr W'->SlR dm 6 W' W'.heap.size sv x.sigs):=jq (λW' hb=>(aR.keep dH hb).more fz (by have:=hb.size;omega));obtain⟨dA,dc,rfl,_,_⟩:=al aV;obtain⟨gA,gc,rfl,_,_⟩:=al aR;obtain⟨dn,pW⟩:∃ n,x.set.data.length=n:=⟨_,rfl⟩;obtain⟨gn,iB⟩:∃ n,x.sigs.length=n:=⟨_,rfl⟩;rw[pW] at e3 kr;rw[iB] at e4 xC;have F0:=jq pW;have xB:=jq iB;clear ab hs B4 aV aR pW iB kN;have bX:(0:Int)<=(j:Int):=by omega
      have bW:(j:Int)<(xn:Int):=by omega
      obtain⟨w8,f8⟩:∃ w8,wr.alloc (.cells #[.string ss,.int .i64 x.set.type,.int .i64 x.set.life,.slice dA dn dc,.slice gA gn gc] 42)=w8:=⟨_,rfl⟩;have ww:w8.heap.size=wr.heap.size+1:=by rw[<-f8];simp
      have gh:Below wr.heap.size wr w8:=by rw[<-f8];exact (vQ _ _).alloc (bQ _) _
      have p0:w8.cell? ⟨wr.heap.size,0,none⟩=some (.string ss):=by rw[<-f8];simp[go_sem]
      have p1:w8.cell? ⟨wr.heap.size,1,none⟩=some (.int .i64 x.set.type):=by rw[<-f8];simp[go_sem]
      have p2:w8.cell? ⟨wr.heap.size,2,none⟩=some (.int .i64 x.set.life):=by rw[<-f8];simp[go_sem]
      have p3:w8.cell? ⟨wr.heap.size,3,none⟩=some (.slice dA dn dc):=by rw[<-f8];simp[go_sem]
      have p4:w8.cell? ⟨wr.heap.size,4,none⟩=some (.slice gA gn gc):=by rw[<-f8];simp[go_sem]
      have gr:=jq gh;clear gh;gi_wp2_with fail;refine⟨trivial,rfl,?_⟩;refine (CallsIn.inRound l (callsIn_wide.2 (aCZ ss x.set.type x.set.life _ _ x.set.data x.sigs w8 (nC.out.keepAt (bH.out.trans (gr.out.mono (by omega))) zH.out) (by rw[LX.out];exact Gp.out) (kr.out w8 (gr.out.mono (by omega))) (xC.out w8 (gr.out.mono (by omega)))))).mono ?_;rw[LX.out];rintro e w9 ⟨rfl,dK⟩;clear f8 e0 e1 e2 e3 e4;have yK:=dK.size;have gK:Hid (Below wr.heap.size wr w9):=jq (gr.out.trans (dK.mono (by omega)));replace p0:=(cl dK (by omega)).trans p0;replace p1:=(cl dK (by omega)).trans p1;replace p2:=(cl dK (by omega)).trans p2;replace p3:=(cl dK (by omega)).trans p3;replace p4:=(cl dK (by omega)).trans p4;have CM:Hid (Boxed w9 Bh 52 ov):=jq (cR xm.out gK.out (by omega));have KH:Hid (Boxed w9 (Bh+1) 4 (.bool true)):=jq (cR KI.out gK.out (by omega));have FK:Hid (cI (Bh+1+1) (Np.ni (us.map (·.1))) w9):=jq (KC.out.keep gK.out (by omega));have qS:=jq (gw.out.keep gK.out);have D9:=(gK.out.block _ (by omega)).trans ((uy.out _ (by omega) CP.out).trans kV.out);have NW:w9.heap[X+1]?=w6.heap[X+1]?:=(gK.out.block _ (by omega)).trans ((uy.out _ (by omega) (λe=>by have:=eJ.out _ e;omega)).trans L2.out.1);have NU:w9.heap[Bh+1+1+1]?=w6.heap[Bh+1+1+1]?:=(gK.out.block _ (by omega)).trans ((uy.out _ (by omega) (λe=>by have:=eJ.out _ e;omega)).trans L2.out.2);have bx:w9.cell? ⟨Bh+1+1+1,0,none⟩=some (.map (some (Bh+1+1))):=(iQ NU).trans Ss.out.cell;have kz:w9.cell? ⟨X+1,0,none⟩=some (.string z):=(iQ NW).trans sL.out;have iE:=awQ (P:=prog) w9 213 9 3 underlying213 underlying9 (Bh+1+1) _ FK.out (Np.dR x) (.int .i64 0) (by kernel_rfl);have Dl:Hid (∀ y∈us.map (·.1),Np.Plain47 y):=jq (λy hy=>by
       rw[EP k9.out] at hy;obtain⟨p,hp,rfl⟩:=List.mem_map.1 (Np.wI.1 hy);exact TF.out j p hp)
      have zV:Hid ((us.map (·.1)).Nodup):=jq (by rw[EP k9.out];exact Np.yR _);have LO:Hid (us.length<=5000):=jq (by have h1:=PY k9.out;have h2:=Ls.out j;omega);clear dK NW NU;obtain⟨key,p8⟩:∃ key,Np.dR x=key:=⟨_,rfl⟩;rw[p8] at iE |-;by_cases hin:x∈us.map (·.1)
      ·obtain⟨q,hq⟩:=List.mem_iff_getElem?.1 hin;have fi:(Np.ni (us.map (·.1))).lookup key=some (.int .i64 ((q:Nat):Int)):=by rw[<-p8];exact Np.ZX Lv.out Dl.out zV.out hq
       rw[fi] at iE;simp only[Option.getD_some,Option.isSome_some] at iE;rw[EP k9.out] at hq;obtain⟨fv,hy⟩:=adQ k9.out hq;obtain⟨tl,mZ⟩:∃ tl,Np.fN (psP PP ⟨xf,xt⟩ sets j) x=tl:=⟨_,rfl⟩;have ku:Hid (∀ v',(us.set q (x,tl ++ [⟨xf,xt⟩],v')).map (λx=>(x.1,x.2.1))=Np.ej (psP PP ⟨xf,xt⟩ sets (j+1))):=jq (λv'=>by rw[dI.out,<-mZ];exact adJ k9.out hq _ v');have G6:Hid (tl.length<=5000):=jq (by rw[<-mZ];have h1:=Fi (psP PP ⟨xf,xt⟩ sets j) x;have h2:=Ls.out j;omega);rw[mZ] at hy;clear hin fi hq mZ p8;obtain⟨n,hn⟩:∃ n,us.length=n:=⟨_,rfl⟩;have a0X:q<n:=by rw[<-hn];exact (cQ.1 hy).1
       obtain⟨g,cap,rfl,dL,BA,vK⟩:=qS.out.rows.row.formSome hn (by omega);have im:=jq hn;have I0:n<=5000:=by rw[<-hn];exact LO.out
       have tI:aK w6.heap.size w9 fv tl:=qS.out.rows.fresh _ (gQ hy);obtain⟨fA,fc,rfl⟩:=aK.form tI;obtain⟨fn,iT⟩:∃ fn,tl.length=fn:=⟨_,rfl⟩;rw[iT] at hy tI;have ur:=jq iT;have HY:=jq hy;have kx:Hid (∀ k,(Value.slice fA fn fc).ownBlock=some k->w6.heap.size<=k/\k≠g/\k≠W.heap.size):=jq (λk e=>by
        have h1:=World.ownsRow.lt tI k e;have h2:=(qS.out.rows.off _ (gQ hy) k e).1;have h3:=qS.out.own k (.inr ⟨_,gQ hy,e⟩);exact⟨h1.1,λe=>h2 (by rw[e];rfl),λe2=>by
         subst e2;rcases h3 with h3 | h3
         ·exact CP.out h3
         ·omega⟩)
       have b6:=CM.out.cell;have f6:w9.cell? ⟨g,q * 8+6,none⟩=some (.slice fA fn fc):=II qS.out.rows.row hy;have c1:w9.cell? ⟨W.heap.size,1,none⟩=some (.int .i64 xf):=by simp[World.cell?,D9]
       have c2:w9.cell? ⟨W.heap.size,2,none⟩=some (.int .i64 xt):=by simp[World.cell?,D9]
       have ph:(0:Int)<=(q:Int):=by omega
       have kf:(q:Int)<(n:Int):=by omega
       have Bz:decide ((20000:Int)<(n:Int))=false:=tQ (by omega);have XP:decide (20000<n)=false:=tQ (by omega);have uw:=qS;have CL:=CM;have FM:=KH;have CK:=FK;have uC:=gM;have XO:W.heap.size<w9.heap.size:=by omega
       clear hn hy tI iT D9 vK;gi_wp2_with fail;refine zi λa0 cB=>?_;have mv:=jq cB;have jc:=jq (show a0.eval (.tmp 6) = .pointer (some ⟨Bh,0,none⟩) by rw[cB];rfl);have mw:=jq (show a0.eval (.tmp 13) = .int .i64 (q:Nat) by rw[cB];rfl);have uf:=jq (show a0.eval (.tmp 9) = .pointer (some ⟨W.heap.size,0,none⟩) by rw[cB];rfl);have HM:=jq (show a0.tmps.size=101 by rw[cB];rfl);clear cB;refine Fq (by kernel_rfl) (by kernel_rfl) (by rintro⟨_,_,h⟩;exact h) ?_;refine iK (w:=w9.drew) (D:=[0,1,2,3,4,5,6,7,8,9,10,11,14,15]) (A:=[]) (p:=12) (dst:=el) (val:=eE g n cap q fA fn fc W.heap.size xf xt undef undef) (m:=101)
        (base:=dS a0 101 wM) (iJ (by kernel_rfl)) (by simp) (by simp) (ij (by kernel_rfl)) ?_
        (λi hi=>(jE i (by simp at hi |-;omega)).1) (λi hi j hj=>qo i (by simp at hi |-;omega) j (by simp at hj |-;omega)) (λi hi=>cZ (jE i (by simp at hi |-;omega)).2) ?_ ?_ _ _ _ (Held.start (λq hq=>wT q hq) HM.out)
       ·intro i hi aH;simp only[List.mem_cons,Qh,or_false] at hi;rcases hi with rfl | rfl | rfl | rfl | rfl | rfl | rfl | rfl | rfl | rfl | rfl | rfl | rfl | rfl
        all_goals first | (exfalso;simp at aH;done) | exact⟨_,rfl,rfl⟩
       ·intro i hi aH o ho a' hb aY;have k6':=(bG hb (j:=6) (by decide) (by decide)).trans jc.out;have k13':=(bG hb (j:=13) (by decide) (by decide)).trans mw.out;have k9':=(bG hb (j:=9) (by decide) (by decide)).trans uf.out;simp[Act.eval] at k6' k13' k9';simp only[List.mem_cons,Qh,or_false] at hi;rcases hi with rfl | rfl | rfl | rfl | rfl | rfl | rfl | rfl | rfl | rfl | rfl | rfl | rfl | rfl
        all_goals first
         | (exfalso;simp at aH;done)
         | (cases ho
            try simp[Act.eval,Region.binds,eE,el] at aY
            refine .inl ⟨by simp[Region.wanted],λw' hw'=>?_⟩;subst hw';simp[Oper.quietAt,Oper.quietUpon,execOp,go_sem,eE,k6',k13',k9',b6,f6,c1,c2,ph,kf,aY])
       ·intro f listed a' hH hr;obtain⟨_,o,ho,aA⟩:=mem_ready.1 hr
        cases ho
        have hG:=hH.good;have hval:=λi hi hl=>hG.val i hi hl;have bS:∀ k,({ on:=k,ground:=.data } : Edge)∈_->listed.getD k false=true:=λk hk=>aA _ hk rfl;have av11:=hval 11 (by simp) (bS 11 (by simp));simp[Act.eval,eE,el] at av11;simp only[wpOp];simp[Region.wanted];refine .inl ?_;simp[Oper.wp,execOp,go_sem,av11];obtain⟨wA,pm⟩:∃ W',W'=(w9.alloc (.cells #[.int .i64 xf,.int .i64 xt] 110)).drew:=⟨_,rfl⟩;rw[<-pm];have lq:Below w9.heap.size w9 wA:=by rw[pm];exact ((vQ _ _).alloc (bQ _) _).drew
        have Zq:wA.heap.size=w9.heap.size+1:=by rw[pm];simp[World.drew]
        have zB:Hid (wA.cell? ⟨w9.heap.size,0,none⟩=some (.int .i64 xf)/\wA.cell? ⟨w9.heap.size,1,none⟩=some (.int .i64 xt)):=jq (by rw[pm];exact⟨by simp[go_sem],by simp[go_sem]⟩);replace b6:=(cl lq (by omega)).trans b6;replace f6:=(cl lq (by omega)).trans f6;replace c1:=(cl lq (by omega)).trans c1;replace c2:=(cl lq (by omega)).trans c2;have ux:=jq (uw.out.keep lq);have fB:=jq lq;clear pm lq;refine iK (w:=wA) (D:=[0,1,2,3,4,5,6,7,8,9,10,11,14,15,12]) (A:=[12]) (p:=13) (dst:=el) (val:=eE g n cap q fA fn fc W.heap.size xf xt (.slice (some ⟨w9.heap.size,0,none⟩) 1 1) undef) (m:=101)
         (base:=dS a0 101 wM) (iJ (by kernel_rfl)) (by simp) (by simp) (ij (by kernel_rfl)) ?_
         (λi hi=>(jE i (by simp at hi |-;omega)).1) (λi hi j hj=>qo i (by simp at hi |-;omega) j (by simp at hj |-;omega)) (λi hi=>cZ (jE i (by simp at hi |-;omega)).2) ?_ ?_ _ _ _ (hH.act (D':=[0,1,2,3,4,5,6,7,8,9,10,11,14,15,12]) (val':=eE g n cap q fA fn fc W.heap.size xf xt (.slice (some ⟨w9.heap.size,0,none⟩) 1 1) undef) hr (by simp) (λi hi=>by simp at hi |-;omega) (λi hi=>by simp at hi;rcases hi with rfl | rfl | rfl | rfl | rfl | rfl | rfl | rfl | rfl | rfl | rfl | rfl | rfl | rfl <;> rfl) rfl (by simp[el]) (λj hj=>qo 12 (by simp) j (by simp at hj |-;omega) (by rintro rfl;simp at hj)) (cZ (jE 12 (by simp)).2) (by simp))
        ·intro i hi aH;simp only[List.mem_cons,Qh,or_false] at hi;rcases hi with rfl | rfl | rfl | rfl | rfl | rfl | rfl | rfl | rfl | rfl | rfl | rfl | rfl | rfl | rfl
         all_goals first | (exfalso;simp at aH;done) | exact⟨_,rfl,rfl⟩
        ·intro i hi aH o ho a' hb aY;have k6':=(bG hb (j:=6) (by decide) (by decide)).trans jc.out;have k13':=(bG hb (j:=13) (by decide) (by decide)).trans mw.out;have k9':=(bG hb (j:=9) (by decide) (by decide)).trans uf.out;simp[Act.eval] at k6' k13' k9';simp only[List.mem_cons,Qh,or_false] at hi;rcases hi with rfl | rfl | rfl | rfl | rfl | rfl | rfl | rfl | rfl | rfl | rfl | rfl | rfl | rfl | rfl
         all_goals first
          | (exfalso;simp at aH;done)
          | (cases ho
             try simp[Act.eval,Region.binds,eE,el] at aY
             refine .inl ⟨by simp[Region.wanted],λw' hw'=>?_⟩;subst hw';simp[Oper.quietAt,Oper.quietUpon,execOp,go_sem,eE,k6',k13',k9',b6,f6,c1,c2,ph,kf,aY])
        ·intro f listed a' hH hr;obtain⟨_,o,ho,aA⟩:=mem_ready.1 hr
         cases ho
         have hG:=hH.good;have hval:=λi hi hl=>hG.val i hi hl;have bS:∀ k,({ on:=k,ground:=.data } : Edge)∈_->listed.getD k false=true:=λk hk=>aA _ hk rfl;have av6:=hval 6 (by simp) (bS 6 (by simp));have av12:=hval 12 (by simp) (bS 12 (by simp));simp[eE,el] at av6 av12;simp only[wpOp];simp[Region.wanted];refine .inl ?_;refine RT wA (.tmp 68) (.tmp 74) rfl w6.heap.size (.slice fA fn fc) tl av6 (ux.out.rows.fresh _ (gQ HY.out)) w9.heap.size xf xt av12 zB.out.1 zB.out.2 (by have:=G6.out;omega) (by omega) ?_;intro v8 wB fH cX j8;obtain⟨eA,ec,rfl⟩:=Qg fH (n:=(fn+1)) (by rw[List.length_append,ur.out];rfl);have Zr:=cX.size;have ffA:wA.frozen? ⟨g,q * 8+6,none⟩=false:=ux.out.rows.row.frozenAt im.out _;have rD:wB.heap[Bh]?=wA.heap[Bh]?:=cX.block Bh (by omega) (λe=>by have:=(kx.out Bh e.symm).1;omega);have vR:wB.heap[g]?=wA.heap[g]?:=cX.block g (by omega) (λe=>(kx.out g e.symm).2.1 rfl);have vP:wB.heap[W.heap.size]?=wA.heap[W.heap.size]?:=cX.block W.heap.size (by omega) (λe=>(kx.out _ e.symm).2.2 rfl);replace b6:=(iQ (a:=⟨Bh,0,none⟩) rD).trans b6;replace f6:=(iQ (a:=⟨g,q * 8+6,none⟩) vR).trans f6;replace c1:=(iQ (a:=⟨W.heap.size,1,none⟩) vP).trans c1;replace c2:=(iQ (a:=⟨W.heap.size,2,none⟩) vP).trans c2;have ff:=(World.frozen?_of_block (a:=⟨g,q * 8+6,none⟩) vR).trans ffA;have H8:=jq (And.intro fH (And.intro cX j8));clear fH cX j8 rD vR vP ffA;refine iK (w:=wB) (D:=[0,1,2,3,4,5,6,7,8,9,10,11,14,15,12,13]) (A:=[13,12]) (p:=16) (dst:=el) (val:=eE g n cap q fA fn fc W.heap.size xf xt (.slice (some ⟨w9.heap.size,0,none⟩) 1 1) (.slice eA (fn+1) ec)) (m:=101)
          (base:=dS a0 101 wM) (iJ (by kernel_rfl)) (by simp) (by simp) (ij (by kernel_rfl)) ?_
          (λi hi=>(jE i (by simp at hi |-;omega)).1) (λi hi j hj=>qo i (by simp at hi |-;omega) j (by simp at hj |-;omega)) (λi hi=>cZ (jE i (by simp at hi |-;omega)).2) ?_ ?_ _ _ _ (hH.act (D':=[0,1,2,3,4,5,6,7,8,9,10,11,14,15,12,13]) (val':=eE g n cap q fA fn fc W.heap.size xf xt (.slice (some ⟨w9.heap.size,0,none⟩) 1 1) (.slice eA (fn+1) ec)) hr (by simp) (λi hi=>by simp at hi |-;omega) (λi hi=>by simp at hi;rcases hi with rfl | rfl | rfl | rfl | rfl | rfl | rfl | rfl | rfl | rfl | rfl | rfl | rfl | rfl | rfl <;> rfl) rfl (by simp[el]) (λj hj=>qo 13 (by simp) j (by simp at hj |-;omega) (by rintro rfl;simp at hj)) (cZ (jE 13 (by simp)).2) (by simp))
         ·intro i hi aH;simp only[List.mem_cons,Qh,or_false] at hi;rcases hi with rfl | rfl | rfl | rfl | rfl | rfl | rfl | rfl | rfl | rfl | rfl | rfl | rfl | rfl | rfl | rfl
          all_goals first | (exfalso;simp at aH;done) | exact⟨_,rfl,rfl⟩
         ·intro i hi aH o ho a' hb aY;have k6':=(bG hb (j:=6) (by decide) (by decide)).trans jc.out;have k13':=(bG hb (j:=13) (by decide) (by decide)).trans mw.out;have k9':=(bG hb (j:=9) (by decide) (by decide)).trans uf.out;simp[Act.eval] at k6' k13' k9';simp only[List.mem_cons,Qh,or_false] at hi;rcases hi with rfl | rfl | rfl | rfl | rfl | rfl | rfl | rfl | rfl | rfl | rfl | rfl | rfl | rfl | rfl | rfl
          all_goals first
           | (exfalso;simp at aH;done)
           | (cases ho
              try simp[Act.eval,Region.binds,eE,el] at aY
              refine .inl ⟨by simp[Region.wanted],λw' hw'=>?_⟩;subst hw';simp[Oper.quietAt,Oper.quietUpon,execOp,go_sem,eE,k6',k13',k9',b6,f6,c1,c2,ph,kf,aY])
         ·intro f listed a' hH hr;obtain⟨_,o,ho,aA⟩:=mem_ready.1 hr
          cases ho
          have hG:=hH.good;have hval:=λi hi hl=>hG.val i hi hl;have bS:∀ k,({ on:=k,ground:=.data } : Edge)∈_->listed.getD k false=true:=λk hk=>aA _ hk rfl;obtain⟨rfl,dN⟩:=hH.all hr (by kernel_rfl);have av13:=hval 13 (by simp) (dN 13 (by simp) (by simp));have av15:=hval 15 (by simp) (dN 15 (by simp) (by simp));simp[Act.eval,eE,el] at av13 av15;have lY:=Held.frame (D:=[0,1,2,3,4,5,6,7,8,9,10,11,14,15,12,13]) (dst:=el) (a0:=a0) (m:=101) hH HM.out (λi hi=>dN i (by simp at hi |-;omega) (by simp at hi;omega)) (λi hi=>(jE i (by simp at hi |-;omega)).1);simp only[wpOp];simp[Region.wanted];refine .inl ?_;simp[Oper.wp,execOp,go_sem,av13,av15,f6,ff];refine⟨wR (λi hi=>?_) (by rw[Array.size_setIfInBounds];exact hG.size),?_⟩
          ·by_cases hip:i=16
           ·subst hip;have hs:16<listed.size:=by rw[hG.size];exact hi
            simp[Array.getD,hs]
           ·exact nk (dN i hi hip)
          ·rw[lY,mv.out];simp[lD,Act.put,eE,el];clear lY hval bS dN aA hG hH;clear b6 f6 c1 c2 ff;obtain⟨W',hW'⟩:∃ W',wB.setCell ⟨g,q * 8+6,none⟩ (.slice eA (fn+1) ec)=W':=⟨_,rfl⟩;have uq:Hid (PubK S W₂ w6.heap.size z (λk=>M k\/(Value.slice eA (fn+1) ec).ownBlock=some k) (us.set q (x,tl ++ [⟨xf,xt⟩],.slice eA (fn+1) ec)) (.slice (some ⟨g,0,none⟩) n cap) W'):=jq (by rw[<-hW'];exact ux.out.changed im.out HY.out H8.out.2.1 H8.out.1 H8.out.2.2);have ik:Hid (Below w6.heap.size w9 W'):=jq (by rw[<-hW'];exact ((fB.out.mono (by omega)).trans ((vQ _ _).grown H8.out.2.1 (by omega) (λk e=>(kx.out k e).1))).setCell (by dsimp only;omega) _);have G1:Hid ((us.set q (x,tl ++ [(⟨xf,xt⟩:Np.Span)],Value.slice eA (fn+1) ec)).map (·.1)=us.map (·.1)):=jq (Q6 HY.out rfl);rw[hW'];have EI:W'.heap.size=wB.heap.size:=by rw[<-hW'];simp[World.setCell]
           gi_wp2_with fail;go_roundw
           case measure=>simp[intOf] <;> omega
           case rel=>exact⟨j+1,_,_,_,by omega,by go_num,by omega,jq (cR CL.out ik.out (by omega)),jq (cR FM.out ik.out (by omega)),jq (by rw[G1.out];exact CK.out.keep ik.out (by omega)),uq,jq ⟨.inl uC.out.1,.inl uC.out.2.1,.inl uC.out.2.2⟩,jq (ku.out _)⟩
      ·have fi:(Np.ni (us.map (·.1))).lookup key=none:=by rw[<-p8];exact Np.ZV Lv.out Dl.out hin
       rw[fi] at iE;simp only[Option.getD_none,Option.isSome_none] at iE;have OE:x∉Np.cM ((psP PP ⟨xf,xt⟩ sets j).map (·.2)):=by rw[<-EP k9.out];exact hin
       obtain⟨m,hm⟩:∃ m,us.length=m:=⟨_,rfl⟩;have uD:=jq hm;have qU:Hid (m<=5000):=jq (by rw[<-hm];exact LO.out);obtain⟨wU,OC,BM,cO⟩:=Q2 (P:=prog) w9 213 9 3 underlying213 underlying9 (Bh+1+1) _ FK.out key (.int .i64 ((m:Nat):Int)) fi;obtain⟨oA,oc,rfl⟩:=qS.out.rows.row.formN hm;have b6:=CM.out.cell;have ku:Hid (∀ v',((us ++ [((x,[],.slice none 0 0):PT)]).set m (x,[] ++ [⟨xf,xt⟩],v')).map (λx=>(x.1,x.2.1))=Np.ej (psP PP ⟨xf,xt⟩ sets (j+1))):=jq (λv'=>by rw[dI.out,<-hm];exact adZ k9.out OE _ _ v');have Zv:wU.heap.size=w9.heap.size:=cO.size;have K8:=jq (qS.out.touch gM.out.2.1 (.inl sU.out.2.2) (λe=>by have:=(qS.out.rows.lt e).1;omega) cO);have xo:Hid (Below X wr wU):=jq ((gK.out.mono (by omega)).trans (cO.below (by omega)));have xl:Hid (Boxed wU Bh 52 (.slice oA m oc)):=jq ((cO.block Bh (by omega)).trans CM.out);have Sp:Hid (Boxed wU (Bh+1) 4 (.bool true)):=jq ((cO.block (Bh+1) (by omega)).trans KH.out);have Sj:Hid (cI (Bh+1+1) (Np.ni ((us ++ [((x,[],.slice none 0 0):PT)]).map (·.1))) wU):=jq (by
        rw[List.map_append,List.map_cons,List.map_nil,Np.ZW,p8,List.length_map,hm];exact BM)
       have SD:Hid (wU.heap[W.heap.size]?=W₂.heap[W.heap.size]?):=jq ((cO.block _ (by omega)).trans ((gK.out.block _ (by omega)).trans (uy.out _ (by omega) CP.out)));clear hin fi OE hm p8 BM D9;gi_wp2_with fail;replace b6:=xl.out.cell;replace kz:=(iQ (a:=⟨X+1,0,none⟩) (cO.block (X+1) (by omega))).trans kz;replace p0:=(iQ (a:=⟨wr.heap.size,0,none⟩) (cO.block wr.heap.size (by omega))).trans p0;replace p1:=(iQ (a:=⟨wr.heap.size,1,none⟩) (cO.block wr.heap.size (by omega))).trans p1;replace p2:=(iQ (a:=⟨wr.heap.size,2,none⟩) (cO.block wr.heap.size (by omega))).trans p2;replace p3:=(iQ (a:=⟨wr.heap.size,3,none⟩) (cO.block wr.heap.size (by omega))).trans p3;replace p4:=(iQ (a:=⟨wr.heap.size,4,none⟩) (cO.block wr.heap.size (by omega))).trans p4;clear OC iE bx cO;refine zi λa0 cB=>?_;have mv:=jq cB;have jc:=jq (show a0.eval (.tmp 6) = .pointer (some ⟨Bh,0,none⟩) by rw[cB];rfl);have sD:=jq (show a0.eval (.tmp 3) = .pointer (some ⟨X+1,0,none⟩) by rw[cB];rfl);have CI:=jq (show a0.eval (.tmp 11) = .pointer (some ⟨wr.heap.size,0,none⟩) by rw[cB];rfl);have HM:=jq (show a0.tmps.size=101 by rw[cB];rfl);clear cB;refine Fq (by kernel_rfl) (by kernel_rfl) (by rintro⟨_,_,h⟩;exact h) ?_;refine iK (w:=wU.drew) (D:=[0,1,2]) (A:=[]) (p:=3) (dst:=gU) (val:=iH oA m oc z ss x.set.type x.set.life dA dn dc gA gn gc undef undef undef) (m:=101)
        (base:=dS a0 101 Ct) (iJ (by kernel_rfl)) (by simp) (by simp) (ij (by kernel_rfl)) ?_
        (λi hi=>(og i (by simp at hi |-;omega)).1) (λi hi j hj=>wL i (by simp at hi |-;omega) j (by simp at hj |-;omega)) (λi hi=>cZ (og i (by simp at hi |-;omega)).2) ?_ ?_ _ _ _ (Held.start (λq hq=>wT q hq) HM.out)
       ·intro i hi aH;simp only[List.mem_cons,Qh,or_false] at hi;rcases hi with rfl | rfl | rfl
        all_goals first | (exfalso;simp at aH;done) | exact⟨_,rfl,rfl⟩
       ·intro i hi aH o ho a' hb aY;have k6':=(bG hb (j:=6) (by decide) (by decide)).trans jc.out;have k3':=(bG hb (j:=3) (by decide) (by decide)).trans sD.out;have k11':=(bG hb (j:=11) (by decide) (by decide)).trans CI.out;simp[Act.eval] at k6' k3' k11';simp only[List.mem_cons,Qh,or_false] at hi;rcases hi with rfl | rfl | rfl
        all_goals first
         | (exfalso;simp at aH;done)
         | (cases ho
            try simp[Act.eval,Region.binds,iH,gU] at aY
            refine .inl ⟨by simp[Region.wanted],λw' hw'=>?_⟩;subst hw';simp[Oper.quietAt,Oper.quietUpon,execOp,go_sem,iH,k6',k3',k11',b6,kz,p0,p1,p2,p3,p4,yU,aY])
       ·intro f listed a' hH hr;obtain⟨_,o,ho,aA⟩:=mem_ready.1 hr
        cases ho
        have hG:=hH.good;have hval:=λi hi hl=>hG.val i hi hl;have bS:∀ k,({ on:=k,ground:=.data } : Edge)∈_->listed.getD k false=true:=λk hk=>aA _ hk rfl;have av2:=hval 2 (by simp) (bS 2 (by simp));simp[Act.eval,iH,gU] at av2;simp only[wpOp];simp[Region.wanted];refine .inl ?_;simp[Oper.wp,go_sem,av2];refine (MA ss x.set.type x.set.life _ x.set.data _ x.sigs (by have:=um.out.1;omega) (by have:=um.out.2;omega) wU.drew (kr.out wU.drew xo.out.drew) (xC.out wU.drew xo.out.drew)).mono ?_;rintro e wC ⟨dv2,gv2,rfl,iy,Bg⟩;have jp:Below wU.heap.size wU wC:=(vQ wU.heap.size wU).drew.trans Bg;have Zs:=jp.size;replace p0:=(cl jp (by omega)).trans p0;replace p1:=(cl jp (by omega)).trans p1;replace p2:=(cl jp (by omega)).trans p2;replace p3:=(cl jp (by omega)).trans p3;replace p4:=(cl jp (by omega)).trans p4;replace b6:=(cl jp (by omega)).trans b6;replace kz:=(cl jp (by omega)).trans kz;have lK:Hid (Fv wU.heap.size wC dv2 gv2 x.set.data x.sigs):=jq iy;obtain⟨dA2,dc2,rfl,_,_⟩:=al ((iy (λ_=>False) (λ_ e=>e.elim)).1);obtain⟨gA2,gc2,rfl,_,_⟩:=al ((iy (λ_=>False) (λ_ e=>e.elim)).2);rw[F0.out,xB.out] at lK |-;have Te:=jq (K8.out.keep jp);have FJ:=jq jp;clear iy jp Bg;dsimp only;refine iK (w:=wC) (D:=[0,1,2,4,3]) (A:=[3]) (p:=5) (dst:=gU) (val:=iH oA m oc z ss x.set.type x.set.life dA dn dc gA gn gc (.agg #[.string ss,.int .i64 x.set.type,.int .i64 x.set.life,.slice dA2 dn dc2,.slice gA2 gn gc2]) undef undef) (m:=101)
         (base:=dS a0 101 Ct) (iJ (by kernel_rfl)) (by simp) (by simp) (ij (by kernel_rfl)) ?_
         (λi hi=>(og i (by simp at hi |-;omega)).1) (λi hi j hj=>wL i (by simp at hi |-;omega) j (by simp at hj |-;omega)) (λi hi=>cZ (og i (by simp at hi |-;omega)).2) ?_ ?_ _ _ _ (hH.act (D':=[0,1,2,4,3]) (val':=iH oA m oc z ss x.set.type x.set.life dA dn dc gA gn gc (.agg #[.string ss,.int .i64 x.set.type,.int .i64 x.set.life,.slice dA2 dn dc2,.slice gA2 gn gc2]) undef undef) hr (by simp) (λi hi=>by simp at hi |-;omega) (λi hi=>by simp at hi;rcases hi with rfl | rfl | rfl <;> rfl) rfl (by simp[gU]) (λj hj=>wL 3 (by simp) j (by simp at hj |-;omega) (by rintro rfl;simp at hj)) (cZ (og 3 (by simp)).2) (by simp))
        ·intro i hi aH;simp only[List.mem_cons,Qh,or_false] at hi;rcases hi with rfl | rfl | rfl | rfl | rfl
         all_goals first | (exfalso;simp at aH;done) | exact⟨_,rfl,rfl⟩
        ·intro i hi aH o ho a' hb aY;have k6':=(bG hb (j:=6) (by decide) (by decide)).trans jc.out;have k3':=(bG hb (j:=3) (by decide) (by decide)).trans sD.out;have k11':=(bG hb (j:=11) (by decide) (by decide)).trans CI.out;simp[Act.eval] at k6' k3' k11';simp only[List.mem_cons,Qh,or_false] at hi;rcases hi with rfl | rfl | rfl | rfl | rfl
         all_goals first
          | (exfalso;simp at aH;done)
          | (cases ho
             try simp[Act.eval,Region.binds,iH,gU] at aY
             refine .inl ⟨by simp[Region.wanted],λw' hw'=>?_⟩;subst hw';simp[Oper.quietAt,Oper.quietUpon,execOp,go_sem,iH,k6',k3',k11',b6,kz,p0,p1,p2,p3,p4,yU,aY])
        ·intro f listed a' hH hr;obtain⟨_,o,ho,aA⟩:=mem_ready.1 hr
         cases ho
         have hG:=hH.good;have hval:=λi hi hl=>hG.val i hi hl;have bS:∀ k,({ on:=k,ground:=.data } : Edge)∈_->listed.getD k false=true:=λk hk=>aA _ hk rfl;have av4:=hval 4 (by simp) (bS 4 (by simp));simp[Act.eval,iH,gU] at av4;simp only[wpOp];simp[Region.wanted];refine .inl ?_;simp[yU] at av4;simp[Oper.wp,execOp,go_sem,av4];obtain⟨wX,nc⟩:∃ W',W'=wC.alloc (.cells #[.string z,.string ss,.int .i64 x.set.type,.int .i64 x.set.life,.slice dA2 dn dc2,.slice gA2 gn gc2,.slice none 0 0,.slice none 0 0] 57):=⟨_,rfl⟩;rw[<-nc];have bB:Below wC.heap.size wC wX:=by rw[nc];exact (vQ _ _).alloc (bQ _) _
         have Bk:ai wX wC.heap.size 0 [.string z,.string ss,.int .i64 x.set.type,.int .i64 x.set.life,.slice dA2 dn dc2,.slice gA2 gn gc2,.slice none 0 0,.slice none 0 0]:=λi v hi=>by
          rw[nc]
          match i,hi with
          | 0,hi=>cases hi;simp[go_sem]
          | 1,hi=>cases hi;simp[go_sem]
          | 2,hi=>cases hi;simp[go_sem]
          | 3,hi=>cases hi;simp[go_sem]
          | 4,hi=>cases hi;simp[go_sem]
          | 5,hi=>cases hi;simp[go_sem]
          | 6,hi=>cases hi;simp[go_sem]
          | 7,hi=>cases hi;simp[go_sem]
          | i+8,hi=>simp at hi
         have Ph:=bB.size;replace p0:=(cl bB (by omega)).trans p0;replace p1:=(cl bB (by omega)).trans p1;replace p2:=(cl bB (by omega)).trans p2;replace p3:=(cl bB (by omega)).trans p3;replace p4:=(cl bB (by omega)).trans p4;replace b6:=(cl bB (by omega)).trans b6;replace kz:=(cl bB (by omega)).trans kz;have ea:=jq Bk;have Gq:=jq (Te.out.keep bB);have xq:=jq bB;have li:Hid (pL z (bi wX M) wX.heap.size [.string z,.string ss,.int .i64 x.set.type,.int .i64 x.set.life,.slice dA2 dn dc2,.slice gA2 gn gc2,.slice none 0 0,.slice none 0 0] (x,[],.slice none 0 0)):=jq (by
          have h1:=lK.out M (λk hk=>K8.out.lt k hk);have h2:=(Leaves'.of_below (M:=M) bB).slr cH wO du h1.1;have h3:=(Leaves'.of_below (M:=M) bB).slr dH yY fz h1.2;exact⟨ss,_,_,none,0,0,rfl,rfl,jM.out.1,jM.out.2,h2,h3⟩)
         clear nc bB Bk;refine iK (w:=wX) (D:=[0,1,2,4,3,5]) (A:=[5,3]) (p:=6) (dst:=gU) (val:=iH oA m oc z ss x.set.type x.set.life dA dn dc gA gn gc (.agg #[.string ss,.int .i64 x.set.type,.int .i64 x.set.life,.slice dA2 dn dc2,.slice gA2 gn gc2]) (.slice (some ⟨wC.heap.size,0,none⟩) 1 1) undef) (m:=101)
          (base:=dS a0 101 Ct) (iJ (by kernel_rfl)) (by simp) (by simp) (ij (by kernel_rfl)) ?_
          (λi hi=>(og i (by simp at hi |-;omega)).1) (λi hi j hj=>wL i (by simp at hi |-;omega) j (by simp at hj |-;omega)) (λi hi=>cZ (og i (by simp at hi |-;omega)).2) ?_ ?_ _ _ _ (hH.act (D':=[0,1,2,4,3,5]) (val':=iH oA m oc z ss x.set.type x.set.life dA dn dc gA gn gc (.agg #[.string ss,.int .i64 x.set.type,.int .i64 x.set.life,.slice dA2 dn dc2,.slice gA2 gn gc2]) (.slice (some ⟨wC.heap.size,0,none⟩) 1 1) undef) hr (by simp) (λi hi=>by simp at hi |-;omega) (λi hi=>by simp at hi;rcases hi with rfl | rfl | rfl | rfl | rfl <;> rfl) rfl (by simp[gU]) (λj hj=>wL 5 (by simp) j (by simp at hj |-;omega) (by rintro rfl;simp at hj)) (cZ (og 5 (by simp)).2) (by simp))
         ·intro i hi aH;simp only[List.mem_cons,Qh,or_false] at hi;rcases hi with rfl | rfl | rfl | rfl | rfl | rfl
          all_goals first | (exfalso;simp at aH;done) | exact⟨_,rfl,rfl⟩
         ·intro i hi aH o ho a' hb aY;have k6':=(bG hb (j:=6) (by decide) (by decide)).trans jc.out;have k3':=(bG hb (j:=3) (by decide) (by decide)).trans sD.out;have k11':=(bG hb (j:=11) (by decide) (by decide)).trans CI.out;simp[Act.eval] at k6' k3' k11';simp only[List.mem_cons,Qh,or_false] at hi;rcases hi with rfl | rfl | rfl | rfl | rfl | rfl
          all_goals first
           | (exfalso;simp at aH;done)
           | (cases ho
              try simp[Act.eval,Region.binds,iH,gU] at aY
              refine .inl ⟨by simp[Region.wanted],λw' hw'=>?_⟩;subst hw';simp[Oper.quietAt,Oper.quietUpon,execOp,go_sem,iH,k6',k3',k11',b6,kz,p0,p1,p2,p3,p4,yU,aY])
         ·intro f listed a' hH hr;obtain⟨_,o,ho,aA⟩:=mem_ready.1 hr
          cases ho
          have hG:=hH.good;have hval:=λi hi hl=>hG.val i hi hl;have bS:∀ k,({ on:=k,ground:=.data } : Edge)∈_->listed.getD k false=true:=λk hk=>aA _ hk rfl;have av0:=hval 0 (by simp) (bS 0 (by simp));have av5:=hval 5 (by simp) (bS 5 (by simp));simp[iH,gU] at av0 av5;simp only[wpOp];simp[Region.wanted];refine .inl ?_;refine Kn (R:=pL z) (M:=M) wX (.tmp 52) (.tmp 57) 52 rfl w6.heap.size yk ih (.agg #[.string ⟨#[]⟩,.string ⟨#[]⟩,.int .i64 0,.int .i64 0,.slice none 0 0,.slice none 0 0,.slice none 0 0,.slice none 0 0]) 144 underlying52 XW XQ XR XS rfl (by decide) (.slice oA m oc) us av0 Gq.out.rows.row (some ⟨wC.heap.size,0,none⟩) 1 [(x,[],.slice none 0 0)] av5 (E6 rfl li.out ea.out) (auJ z) (by rw[uD.out];have:=qU.out;simp[maxLen];omega) (by rw[uD.out];have:=qU.out;simp;omega) (by omega) (E8 z) (Fa z) (E9 z) ?_;intro v8 wY fH cX j8;obtain⟨A8,c8,rfl⟩:=fH.formN (n:=m+1) (by rw[List.length_append,uD.out];rfl);have Pi:=cX.size;have Ep:∀ k,(Value.slice oA m oc).ownBlock=some k->w6.heap.size<=k/\k<wr.heap.size:=λk e=>by have h1:=gw.out.rows.row.lt k e;exact h1
          have yn:wY.heap[wr.heap.size]?=wX.heap[wr.heap.size]?:=cX.block _ (by omega) (λe=>by have:=(Ep _ e.symm).2;omega);have rD:wY.heap[Bh]?=wX.heap[Bh]?:=cX.block _ (by omega) (λe=>by have:=(Ep _ e.symm).1;omega);have Ol:wY.heap[X+1]?=wX.heap[X+1]?:=cX.block _ (by omega) (λe=>by have:=(Ep _ e.symm).1;omega);replace p0:=(iQ (a:=⟨wr.heap.size,0,none⟩) yn).trans p0;replace p1:=(iQ (a:=⟨wr.heap.size,1,none⟩) yn).trans p1;replace p2:=(iQ (a:=⟨wr.heap.size,2,none⟩) yn).trans p2;replace p3:=(iQ (a:=⟨wr.heap.size,3,none⟩) yn).trans p3;replace p4:=(iQ (a:=⟨wr.heap.size,4,none⟩) yn).trans p4;replace b6:=(iQ (a:=⟨Bh,0,none⟩) rD).trans b6;replace kz:=(iQ (a:=⟨X+1,0,none⟩) Ol).trans kz;have KE:Hid (Boxed wY Bh 52 (.slice oA m oc)):=jq (rD.trans ((xq.out.block Bh (by omega)).trans ((FJ.out.block Bh (by omega)).trans xl.out)));have SE:Hid (wY.heap[W.heap.size]?=wU.heap[W.heap.size]?):=jq ((cX.block _ (by omega) (λe=>by
           rcases Gq.out.own _ (.inl e.symm) with h1 | h1
           ·exact CP.out h1
           ·omega)).trans ((xq.out.block _ (by omega)).trans (FJ.out.block _ (by omega))))
          have Sw:Hid (Below w6.heap.size wX wY):=jq ((vQ _ _).grown cX (by omega) (λk e=>(Ep k e).1));have my:=jq (Gq.out.push fH cX j8);clear fH cX j8 yn rD Ol;refine iK (w:=wY) (D:=[0,1,2,4,3,5,6]) (A:=[6,5,3]) (p:=7) (dst:=gU) (val:=iH oA m oc z ss x.set.type x.set.life dA dn dc gA gn gc (.agg #[.string ss,.int .i64 x.set.type,.int .i64 x.set.life,.slice dA2 dn dc2,.slice gA2 gn gc2]) (.slice (some ⟨wC.heap.size,0,none⟩) 1 1) (.slice A8 (m+1) c8)) (m:=101)
           (base:=dS a0 101 Ct) (iJ (by kernel_rfl)) (by simp) (by simp) (ij (by kernel_rfl)) ?_
           (λi hi=>(og i (by simp at hi |-;omega)).1) (λi hi j hj=>wL i (by simp at hi |-;omega) j (by simp at hj |-;omega)) (λi hi=>cZ (og i (by simp at hi |-;omega)).2) ?_ ?_ _ _ _ (hH.act (D':=[0,1,2,4,3,5,6]) (val':=iH oA m oc z ss x.set.type x.set.life dA dn dc gA gn gc (.agg #[.string ss,.int .i64 x.set.type,.int .i64 x.set.life,.slice dA2 dn dc2,.slice gA2 gn gc2]) (.slice (some ⟨wC.heap.size,0,none⟩) 1 1) (.slice A8 (m+1) c8)) hr (by simp) (λi hi=>by simp at hi |-;omega) (λi hi=>by simp at hi;rcases hi with rfl | rfl | rfl | rfl | rfl | rfl <;> rfl) rfl (by simp[gU]) (λj hj=>wL 6 (by simp) j (by simp at hj |-;omega) (by rintro rfl;simp at hj)) (cZ (og 6 (by simp)).2) (by simp))
          ·intro i hi aH;simp only[List.mem_cons,Qh,or_false] at hi;rcases hi with rfl | rfl | rfl | rfl | rfl | rfl | rfl
           all_goals first | (exfalso;simp at aH;done) | exact⟨_,rfl,rfl⟩
          ·intro i hi aH o ho a' hb aY;have k6':=(bG hb (j:=6) (by decide) (by decide)).trans jc.out;have k3':=(bG hb (j:=3) (by decide) (by decide)).trans sD.out;have k11':=(bG hb (j:=11) (by decide) (by decide)).trans CI.out;simp[Act.eval] at k6' k3' k11';simp only[List.mem_cons,Qh,or_false] at hi;rcases hi with rfl | rfl | rfl | rfl | rfl | rfl | rfl
           all_goals first
            | (exfalso;simp at aH;done)
            | (cases ho
               try simp[Act.eval,Region.binds,iH,gU] at aY
               refine .inl ⟨by simp[Region.wanted],λw' hw'=>?_⟩;subst hw';simp[Oper.quietAt,Oper.quietUpon,execOp,go_sem,iH,k6',k3',k11',b6,kz,p0,p1,p2,p3,p4,yU,aY])
          ·intro f listed a' hH hr;obtain⟨_,o,ho,aA⟩:=mem_ready.1 hr
           cases ho
           have hG:=hH.good;have hval:=λi hi hl=>hG.val i hi hl;have bS:∀ k,({ on:=k,ground:=.data } : Edge)∈_->listed.getD k false=true:=λk hk=>aA _ hk rfl;obtain⟨rfl,dN⟩:=hH.all hr (by kernel_rfl);have av6:=hval 6 (by simp) (dN 6 (by simp) (by simp));simp[Act.eval,iH,gU] at av6;have lY:=Held.frame (D:=[0,1,2,4,3,5,6]) (dst:=gU) (a0:=a0) (m:=101) hH HM.out (λi hi=>dN i (by simp at hi |-;omega) (by simp at hi;omega)) (λi hi=>(og i (by simp at hi |-;omega)).1);simp only[wpOp];simp[Region.wanted];refine .inl ?_;have bf:=KE.out.frozen;have k6':=(bG hG.base (j:=6) (by decide) (by decide)).trans jc.out;simp[Act.eval] at k6';simp[Oper.wp,execOp,go_sem,av6,b6,bf,k6'];refine⟨wR (λi hi=>?_) (by rw[Array.size_setIfInBounds];exact hG.size),?_⟩
           ·by_cases hip:i=7
            ·subst hip;have hs:7<listed.size:=by rw[hG.size];exact hi
             simp[Array.getD,hs]
            ·exact nk (dN i hi hip)
           ·rw[lY,mv.out];simp[lD,Act.put,iH,gU];clear lY hval bS dN aA hG hH;clear p0 p1 p2 p3 p4 b6 kz bf;obtain⟨wZ,EF⟩:∃ wZ,wY.setCell ⟨Bh,0,none⟩ (.slice A8 (m+1) c8)=wZ:=⟨_,rfl⟩;have tZ:Turned Bh wY wZ:=by rw[<-EF];exact⟨rfl,rfl,rfl,by simp[World.setCell],λi hi=>wQ _ _ _ _ hi⟩
            have hzZ:wZ.heap.size=wY.heap.size:=tZ.size;have CL:Hid (Boxed wZ Bh 52 (.slice A8 (m+1) c8)):=jq (by rw[<-EF];exact KE.out.set _);have H7:Below w6.heap.size wU wY:=((FJ.out.mono (by omega)).trans (xq.out.mono (by omega))).trans Sw.out;have FM:Hid (Boxed wZ (Bh+1) 4 (.bool true)):=jq ((tZ.block (Bh+1) (by omega)).trans (cR Sp.out H7 (by omega)));have CK:Hid (cI (Bh+1+1) (Np.ni ((us ++ [((x,[],.slice none 0 0):PT)]).map (·.1))) wZ):=jq ((Sj.out.keep H7 (by omega)).stays (tZ.block _ (by omega)));obtain⟨u1,tS⟩:∃ u1,us ++ [((x,[],.slice none 0 0):PT)]=u1:=⟨_,rfl⟩;obtain⟨M1,Ii⟩:∃ M1:Nat->Prop,(λk=>M k\/(Value.slice A8 (m+1) c8).ownBlock=some k)=M1:=⟨_,rfl⟩;have uw:Hid (PubK S W₂ w6.heap.size z M1 u1 (.slice A8 (m+1) c8) wZ):=jq (by rw[<-tS,<-Ii];exact my.out.touch (.inl gM.out.1) (.inl sU.out.1) (λe=>by have:=(my.out.rows.lt e).1;omega) tZ);have uC:Hid (M1 Bh/\M1 (Bh+1+1)/\M1 (Bh+1)):=jq (by rw[<-Ii];exact⟨.inl gM.out.1,.inl gM.out.2.1,.inl gM.out.2.2⟩);rw[tS] at CK ku;have HY:Hid (u1[m]?=some (x,[],.slice none 0 0)):=jq (by rw[<-tS,<-uD.out];simp);have im:Hid (u1.length=m+1):=jq (by rw[<-tS,<-uD.out];simp);have ur:Hid (([]:List Np.Span).length=0):=jq rfl;have G6:Hid (([]:List Np.Span).length<=5000):=jq (by simp);obtain⟨g,cap,N9,dL,BA,vK⟩:=uw.out.rows.row.formSome im.out (by omega);simp only[Value.slice.injEq] at N9;obtain⟨rfl,-,rfl⟩:=N9;have kx:Hid (∀ k,(Value.slice none 0 0).ownBlock=some k->w6.heap.size<=k/\k≠g/\k≠W.heap.size):=jq (λk e=>by cases e);have IC:=((tZ.block _ (by omega)).trans (SE.out.trans SD.out)).trans kV.out;have b6:=CL.out.cell;have f6:wZ.cell? ⟨g,m * 8+6,none⟩=some (.slice none 0 0):=II uw.out.rows.row HY.out;have c1:wZ.cell? ⟨W.heap.size,1,none⟩=some (.int .i64 xf):=by simp[World.cell?,IC]
            have c2:wZ.cell? ⟨W.heap.size,2,none⟩=some (.int .i64 xt):=by simp[World.cell?,IC]
            have ph:(0:Int)<=(m:Int):=by omega
            have kf:(m:Int)<(m:Int)+1:=by omega
            have Bz:decide ((20000:Int)<(m:Int)+1)=false:=tQ (by have:=qU.out;omega);have XP:decide (20000<m+1)=false:=tQ (by have:=qU.out;omega);rw[EF];have XO:W.heap.size<wZ.heap.size:=by omega
            clear IC vK H7 tZ EF tS Ii;gi_wp2_with fail;refine zi λa0 cB=>?_;have mv:=jq cB;have jc:=jq (show a0.eval (.tmp 6) = .pointer (some ⟨Bh,0,none⟩) by rw[cB];rfl);have mw:=jq (show a0.eval (.tmp 13) = .int .i64 (m:Nat) by rw[cB];rfl);have uf:=jq (show a0.eval (.tmp 9) = .pointer (some ⟨W.heap.size,0,none⟩) by rw[cB];rfl);have HM:=jq (show a0.tmps.size=101 by rw[cB];rfl);clear cB;refine Fq (by kernel_rfl) (by kernel_rfl) (by rintro⟨_,_,h⟩;exact h) ?_;refine iK (w:=wZ.drew) (D:=[0,1,2,3,4,5,6,7,8,9,10,11,14,15]) (A:=[]) (p:=12) (dst:=el) (val:=eE g (m+1) c8 m none 0 0 W.heap.size xf xt undef undef) (m:=101)
             (base:=dS a0 101 wM) (iJ (by kernel_rfl)) (by simp) (by simp) (ij (by kernel_rfl)) ?_
             (λi hi=>(jE i (by simp at hi |-;omega)).1) (λi hi j hj=>qo i (by simp at hi |-;omega) j (by simp at hj |-;omega)) (λi hi=>cZ (jE i (by simp at hi |-;omega)).2) ?_ ?_ _ _ _ (Held.start (λq hq=>wT q hq) HM.out)
            ·intro i hi aH;simp only[List.mem_cons,Qh,or_false] at hi;rcases hi with rfl | rfl | rfl | rfl | rfl | rfl | rfl | rfl | rfl | rfl | rfl | rfl | rfl | rfl
             all_goals first | (exfalso;simp at aH;done) | exact⟨_,rfl,rfl⟩
            ·intro i hi aH o ho a' hb aY;have k6':=(bG hb (j:=6) (by decide) (by decide)).trans jc.out;have k13':=(bG hb (j:=13) (by decide) (by decide)).trans mw.out;have k9':=(bG hb (j:=9) (by decide) (by decide)).trans uf.out;simp[Act.eval] at k6' k13' k9';simp only[List.mem_cons,Qh,or_false] at hi;rcases hi with rfl | rfl | rfl | rfl | rfl | rfl | rfl | rfl | rfl | rfl | rfl | rfl | rfl | rfl
             all_goals first
              | (exfalso;simp at aH;done)
              | (cases ho
                 try simp[Act.eval,Region.binds,eE,el] at aY
                 refine .inl ⟨by simp[Region.wanted],λw' hw'=>?_⟩;subst hw';simp[Oper.quietAt,Oper.quietUpon,execOp,go_sem,eE,k6',k13',k9',b6,f6,c1,c2,ph,kf,aY])
            ·intro f listed a' hH hr;obtain⟨_,o,ho,aA⟩:=mem_ready.1 hr
             cases ho
             have hG:=hH.good;have hval:=λi hi hl=>hG.val i hi hl;have bS:∀ k,({ on:=k,ground:=.data } : Edge)∈_->listed.getD k false=true:=λk hk=>aA _ hk rfl;have av11:=hval 11 (by simp) (bS 11 (by simp));simp[Act.eval,eE,el] at av11;simp only[wpOp];simp[Region.wanted];refine .inl ?_;simp[Oper.wp,execOp,go_sem,av11];obtain⟨wA,pm⟩:∃ W',W'=(wZ.alloc (.cells #[.int .i64 xf,.int .i64 xt] 110)).drew:=⟨_,rfl⟩;rw[<-pm];have lq:Below wZ.heap.size wZ wA:=by rw[pm];exact ((vQ _ _).alloc (bQ _) _).drew
             have Zq:wA.heap.size=wZ.heap.size+1:=by rw[pm];simp[World.drew]
             have zB:Hid (wA.cell? ⟨wZ.heap.size,0,none⟩=some (.int .i64 xf)/\wA.cell? ⟨wZ.heap.size,1,none⟩=some (.int .i64 xt)):=jq (by rw[pm];exact⟨by simp[go_sem],by simp[go_sem]⟩);replace b6:=(cl lq (by omega)).trans b6;replace f6:=(cl lq (by omega)).trans f6;replace c1:=(cl lq (by omega)).trans c1;replace c2:=(cl lq (by omega)).trans c2;have ux:=jq (uw.out.keep lq);have fB:=jq lq;clear pm lq;refine iK (w:=wA) (D:=[0,1,2,3,4,5,6,7,8,9,10,11,14,15,12]) (A:=[12]) (p:=13) (dst:=el) (val:=eE g (m+1) c8 m none 0 0 W.heap.size xf xt (.slice (some ⟨wZ.heap.size,0,none⟩) 1 1) undef) (m:=101)
              (base:=dS a0 101 wM) (iJ (by kernel_rfl)) (by simp) (by simp) (ij (by kernel_rfl)) ?_
              (λi hi=>(jE i (by simp at hi |-;omega)).1) (λi hi j hj=>qo i (by simp at hi |-;omega) j (by simp at hj |-;omega)) (λi hi=>cZ (jE i (by simp at hi |-;omega)).2) ?_ ?_ _ _ _ (hH.act (D':=[0,1,2,3,4,5,6,7,8,9,10,11,14,15,12]) (val':=eE g (m+1) c8 m none 0 0 W.heap.size xf xt (.slice (some ⟨wZ.heap.size,0,none⟩) 1 1) undef) hr (by simp) (λi hi=>by simp at hi |-;omega) (λi hi=>by simp at hi;rcases hi with rfl | rfl | rfl | rfl | rfl | rfl | rfl | rfl | rfl | rfl | rfl | rfl | rfl | rfl <;> rfl) rfl (by simp[el]) (λj hj=>qo 12 (by simp) j (by simp at hj |-;omega) (by rintro rfl;simp at hj)) (cZ (jE 12 (by simp)).2) (by simp))
             ·intro i hi aH;simp only[List.mem_cons,Qh,or_false] at hi;rcases hi with rfl | rfl | rfl | rfl | rfl | rfl | rfl | rfl | rfl | rfl | rfl | rfl | rfl | rfl | rfl
              all_goals first | (exfalso;simp at aH;done) | exact⟨_,rfl,rfl⟩
             ·intro i hi aH o ho a' hb aY;have k6':=(bG hb (j:=6) (by decide) (by decide)).trans jc.out;have k13':=(bG hb (j:=13) (by decide) (by decide)).trans mw.out;have k9':=(bG hb (j:=9) (by decide) (by decide)).trans uf.out;simp[Act.eval] at k6' k13' k9';simp only[List.mem_cons,Qh,or_false] at hi;rcases hi with rfl | rfl | rfl | rfl | rfl | rfl | rfl | rfl | rfl | rfl | rfl | rfl | rfl | rfl | rfl
              all_goals first
               | (exfalso;simp at aH;done)
               | (cases ho
                  try simp[Act.eval,Region.binds,eE,el] at aY
                  refine .inl ⟨by simp[Region.wanted],λw' hw'=>?_⟩;subst hw';simp[Oper.quietAt,Oper.quietUpon,execOp,go_sem,eE,k6',k13',k9',b6,f6,c1,c2,ph,kf,aY])
             ·intro f listed a' hH hr;obtain⟨_,o,ho,aA⟩:=mem_ready.1 hr
              cases ho
              have hG:=hH.good;have hval:=λi hi hl=>hG.val i hi hl;have bS:∀ k,({ on:=k,ground:=.data } : Edge)∈_->listed.getD k false=true:=λk hk=>aA _ hk rfl;have av6:=hval 6 (by simp) (bS 6 (by simp));have av12:=hval 12 (by simp) (bS 12 (by simp));simp[eE,el] at av6 av12;simp only[wpOp];simp[Region.wanted];refine .inl ?_;refine RT wA (.tmp 68) (.tmp 74) rfl w6.heap.size (.slice none 0 0) [] av6 (ux.out.rows.fresh _ (gQ HY.out)) wZ.heap.size xf xt av12 zB.out.1 zB.out.2 (by have:=G6.out;omega) (by omega) ?_;intro v8 wB fH cX j8;obtain⟨eA,ec,rfl⟩:=Qg fH (n:=1) (by rw[List.length_append,ur.out];rfl);have Zr:=cX.size;have ffA:wA.frozen? ⟨g,m * 8+6,none⟩=false:=ux.out.rows.row.frozenAt im.out _;have rD:wB.heap[Bh]?=wA.heap[Bh]?:=cX.block Bh (by omega) (λe=>by have:=(kx.out Bh e.symm).1;omega);have vR:wB.heap[g]?=wA.heap[g]?:=cX.block g (by omega) (λe=>(kx.out g e.symm).2.1 rfl);have vP:wB.heap[W.heap.size]?=wA.heap[W.heap.size]?:=cX.block W.heap.size (by omega) (λe=>(kx.out _ e.symm).2.2 rfl);replace b6:=(iQ (a:=⟨Bh,0,none⟩) rD).trans b6;replace f6:=(iQ (a:=⟨g,m * 8+6,none⟩) vR).trans f6;replace c1:=(iQ (a:=⟨W.heap.size,1,none⟩) vP).trans c1;replace c2:=(iQ (a:=⟨W.heap.size,2,none⟩) vP).trans c2;have ff:=(World.frozen?_of_block (a:=⟨g,m * 8+6,none⟩) vR).trans ffA;have H8:=jq (And.intro fH (And.intro cX j8));clear fH cX j8 rD vR vP ffA;refine iK (w:=wB) (D:=[0,1,2,3,4,5,6,7,8,9,10,11,14,15,12,13]) (A:=[13,12]) (p:=16) (dst:=el) (val:=eE g (m+1) c8 m none 0 0 W.heap.size xf xt (.slice (some ⟨wZ.heap.size,0,none⟩) 1 1) (.slice eA 1 ec)) (m:=101)
               (base:=dS a0 101 wM) (iJ (by kernel_rfl)) (by simp) (by simp) (ij (by kernel_rfl)) ?_
               (λi hi=>(jE i (by simp at hi |-;omega)).1) (λi hi j hj=>qo i (by simp at hi |-;omega) j (by simp at hj |-;omega)) (λi hi=>cZ (jE i (by simp at hi |-;omega)).2) ?_ ?_ _ _ _ (hH.act (D':=[0,1,2,3,4,5,6,7,8,9,10,11,14,15,12,13]) (val':=eE g (m+1) c8 m none 0 0 W.heap.size xf xt (.slice (some ⟨wZ.heap.size,0,none⟩) 1 1) (.slice eA 1 ec)) hr (by simp) (λi hi=>by simp at hi |-;omega) (λi hi=>by simp at hi;rcases hi with rfl | rfl | rfl | rfl | rfl | rfl | rfl | rfl | rfl | rfl | rfl | rfl | rfl | rfl | rfl <;> rfl) rfl (by simp[el]) (λj hj=>qo 13 (by simp) j (by simp at hj |-;omega) (by rintro rfl;simp at hj)) (cZ (jE 13 (by simp)).2) (by simp))
              ·intro i hi aH;simp only[List.mem_cons,Qh,or_false] at hi;rcases hi with rfl | rfl | rfl | rfl | rfl | rfl | rfl | rfl | rfl | rfl | rfl | rfl | rfl | rfl | rfl | rfl
               all_goals first | (exfalso;simp at aH;done) | exact⟨_,rfl,rfl⟩
              ·intro i hi aH o ho a' hb aY;have k6':=(bG hb (j:=6) (by decide) (by decide)).trans jc.out;have k13':=(bG hb (j:=13) (by decide) (by decide)).trans mw.out;have k9':=(bG hb (j:=9) (by decide) (by decide)).trans uf.out;simp[Act.eval] at k6' k13' k9';simp only[List.mem_cons,Qh,or_false] at hi;rcases hi with rfl | rfl | rfl | rfl | rfl | rfl | rfl | rfl | rfl | rfl | rfl | rfl | rfl | rfl | rfl | rfl
               all_goals first
                | (exfalso;simp at aH;done)
                | (cases ho
                   try simp[Act.eval,Region.binds,eE,el] at aY
                   refine .inl ⟨by simp[Region.wanted],λw' hw'=>?_⟩;subst hw';simp[Oper.quietAt,Oper.quietUpon,execOp,go_sem,eE,k6',k13',k9',b6,f6,c1,c2,ph,kf,aY])
              ·intro f listed a' hH hr;obtain⟨_,o,ho,aA⟩:=mem_ready.1 hr
               cases ho
               have hG:=hH.good;have hval:=λi hi hl=>hG.val i hi hl;have bS:∀ k,({ on:=k,ground:=.data } : Edge)∈_->listed.getD k false=true:=λk hk=>aA _ hk rfl;obtain⟨rfl,dN⟩:=hH.all hr (by kernel_rfl);have av13:=hval 13 (by simp) (dN 13 (by simp) (by simp));have av15:=hval 15 (by simp) (dN 15 (by simp) (by simp));simp[Act.eval,eE,el] at av13 av15;have lY:=Held.frame (D:=[0,1,2,3,4,5,6,7,8,9,10,11,14,15,12,13]) (dst:=el) (a0:=a0) (m:=101) hH HM.out (λi hi=>dN i (by simp at hi |-;omega) (by simp at hi;omega)) (λi hi=>(jE i (by simp at hi |-;omega)).1);simp only[wpOp];simp[Region.wanted];refine .inl ?_;simp[Oper.wp,execOp,go_sem,av13,av15,f6,ff];refine⟨wR (λi hi=>?_) (by rw[Array.size_setIfInBounds];exact hG.size),?_⟩
               ·by_cases hip:i=16
                ·subst hip;have hs:16<listed.size:=by rw[hG.size];exact hi
                 simp[Array.getD,hs]
                ·exact nk (dN i hi hip)
               ·rw[lY,mv.out];simp[lD,Act.put,eE,el];clear lY hval bS dN aA hG hH;clear b6 f6 c1 c2 ff;obtain⟨W',hW'⟩:∃ W',wB.setCell ⟨g,m * 8+6,none⟩ (.slice eA 1 ec)=W':=⟨_,rfl⟩;have uq:Hid (PubK S W₂ w6.heap.size z (λk=>M1 k\/(Value.slice eA 1 ec).ownBlock=some k) (u1.set m (x,[] ++ [⟨xf,xt⟩],.slice eA 1 ec)) (.slice (some ⟨g,0,none⟩) (m+1) c8) W'):=jq (by rw[<-hW'];exact ux.out.changed im.out HY.out H8.out.2.1 H8.out.1 H8.out.2.2);have ik:Hid (Below w6.heap.size wZ W'):=jq (by rw[<-hW'];exact ((fB.out.mono (by omega)).trans ((vQ _ _).grown H8.out.2.1 (by omega) (λk e=>(kx.out k e).1))).setCell (by dsimp only;omega) _);have G1:Hid ((u1.set m (x,[] ++ [(⟨xf,xt⟩:Np.Span)],Value.slice eA 1 ec)).map (·.1)=u1.map (·.1)):=jq (Q6 HY.out rfl);rw[hW'];have EI:W'.heap.size=wB.heap.size:=by rw[<-hW'];simp[World.setCell]
                gi_wp2_with fail;go_roundw
                case measure=>simp[intOf] <;> omega
                case rel=>exact⟨j+1,_,_,_,by omega,by go_num,by omega,jq (cR CL.out ik.out (by omega)),jq (cR FM.out ik.out (by omega)),jq (by rw[G1.out];exact CK.out.keep ik.out (by omega)),uq,jq ⟨.inl uC.out.1,.inl uC.out.2.1,.inl uC.out.2.2⟩,jq (ku.out _)⟩
     ·obtain rfl:j=xn:=by omega
      obtain⟨No,Nq⟩:=gw.out.stop;have zR:=jq No;have uG:=jq Nq;have TT:Hid (RdStep (λk=>k=Bh\/k=Bh+1\/k=Bh+1+1) w6 wr):=jq (sR.out.trans gw.out.rd (λk e=>by have:=eJ.out k e;omega));clear No Nq;gi_wp2_with fail;refine⟨λk=>S k\/(W₂.heap.size<=k/\k<wr.heap.size),gw.out.rd.mono (λk e=>.inl e),λk e=>?_,λk e=>?_,us,ov,_,.inl sU.out.1,.inl sU.out.2.1,.inl sU.out.2.2,uG.out,λk e=>?_,λk e=>.inr e,.inl gM.out.1,.inl gM.out.2.2,.inl gM.out.2.1,xm.out,?_,KC.out,zR.out,?_,TT.out⟩
      ·rcases e with e | e
       ·exact .inl (.inl e)
       ·exact .inr e.1
      ·rcases e with e | e
       ·have:=TY.out k e;omega
       ·exact e.2
      ·rcases e with e | e
       ·exact eJ.out k e
       ·right;right;right;omega
      ·have e:(!(pre ++ [((⟨xh,xf,xt,xs,xA,j,xc⟩,cc):CV×Np.Copy)]).isEmpty)=true:=by simp
       rw[e];exact KI.out
      ·rw[pw.out,<-ajQ uR.out];exact k9.out
end
end Go.Proofs.YtfnopgdcaanaiaaGreatDoor
