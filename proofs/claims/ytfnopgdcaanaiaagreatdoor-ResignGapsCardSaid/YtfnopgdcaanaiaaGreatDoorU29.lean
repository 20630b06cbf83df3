/- Parts of the proof. No condition. -/
import Derived.Test.YtfnopgdcaanaiaaGreatDoorU23
import Derived.Test.YtfnopgdcaanaiaaGreatDoorU25
import Derived.Test.YtfnopgdcaanaiaaGreatDoorU26
import Derived.Test.YtfnopgdcaanaiaaGreatDoorU27
import Derived.Test.YtfnopgdcaanaiaaGreatDoorU28
set_option linter.all false
set_option maxRecDepth 100000
set_option maxHeartbeats 8000000
namespace Go.Proofs.YtfnopgdcaanaiaaGreatDoor
open Go.Proofs.Tryz
section
open Go.RowKit Go.Shelf Go.MapKept
attribute [local go_sem] Oper.semAt_some CV.cells
def vP(z:ByteArray):Value->Value
 | .agg xs=>.agg (#[.string z]++xs ++ #[.slice none 0 0,.slice none 0 0])
 | _=>undef
def zW:Value->Value
 | .tuple xs=>xs.getD 0 undef
 | _=>undef
def CX:Value->Value
 | .tuple xs=>xs.getD 1 undef
 | _=>undef
def fj(g n cap q:Nat)(fA:Option Addr)(fn fc cb:Nat)(xf xt:Int)(e12:Value)(e13:Value)(i:Nat):Value:=[.slice (some ⟨g,0,none⟩) n cap,.int .i64 (q:Nat),.slice (some ⟨g,0,none⟩) n cap,.int .i64 (q:Nat),.pointer (some ⟨g,q * 8,none⟩),.pointer (some ⟨g,q * 8+6,none⟩),.slice fA fn fc,.pointer (some ⟨cb,1,none⟩),.int .i64 xf,.pointer (some ⟨cb,2,none⟩),.int .i64 xt,.agg #[.int .i64 xf,.int .i64 xt],e12,e13,.pointer (some ⟨g,q * 8,none⟩),.pointer (some ⟨g,q * 8+6,none⟩),undef].getD i undef
def iB(i:Nat):Nat:=[62,63,64,65,66,67,68,69,70,71,72,73,74,75,76,77,0].getD i 0
def Xs:List Nat:=[0,1,2,3,4,5,6,7,8,9,10,11,14,15,12,13].map iB
theorem nf:∀ i∈[0,1,2,3,4,5,6,7,8,9,10,11,14,15,12,13],iB i<101/\iB i∈Xs:=by decide
theorem oX:∀ i∈[0,1,2,3,4,5,6,7,8,9,10,11,14,15,12,13],∀ j∈[0,1,2,3,4,5,6,7,8,9,10,11,14,15,12,13],j≠i->iB i≠iB j:=by decide
def jy(oA:Option Addr)(m oc:Nat)(z ss:ByteArray)(sty slf:Int)(dA:Option Addr)(dn dc:Nat)(gA:Option Addr)(gn gc:Nat)(e3:Value)(e5:Value)(e6:Value)(i:Nat):Value:=[.slice oA m oc,.string z,.agg #[.string ss,.int .i64 sty,.int .i64 slf,.slice dA dn dc,.slice gA gn gc],e3,vP z e3,e5,e6,undef].getD i undef
def lJ(i:Nat):Nat:=[52,53,54,55,56,57,58,0].getD i 0
def Xq:List Nat:=[0,1,2,4,3,5,6].map lJ
theorem rT:∀ i∈[0,1,2,4,3,5,6],lJ i<101/\lJ i∈Xq:=by decide
theorem tX:∀ i∈[0,1,2,4,3,5,6],∀ j∈[0,1,2,4,3,5,6],j≠i->lJ i≠lJ j:=by decide
def nh(g n cap q:Nat)(fA:Option Addr)(fn fc:Nat)(e7:Value)(i:Nat):Value:=[.slice (some ⟨g,0,none⟩) n cap,.int .i64 (q:Nat),.slice (some ⟨g,0,none⟩) n cap,.int .i64 (q:Nat),.pointer (some ⟨g,q * 8,none⟩),.pointer (some ⟨g,q * 8+6,none⟩),.slice fA fn fc,e7,e7,zW e7,CX e7,.pointer (some ⟨g,q * 8,none⟩),.pointer (some ⟨g,q * 8+6,none⟩),undef].getD i undef
def ng(i:Nat):Nat:=[87,88,89,90,91,92,93,94,86,95,96,97,98,0].getD i 0
def Xt:List Nat:=[0,1,2,3,4,5,6,8,9,10,11,12,7].map ng
theorem CU:∀ i∈[0,1,2,3,4,5,6,8,9,10,11,12,7],ng i<101/\ng i∈Xt:=by decide
theorem CW:∀ i∈[0,1,2,3,4,5,6,8,9,10,11,12,7],∀ j∈[0,1,2,3,4,5,6,8,9,10,11,12,7],j≠i->ng i≠ng j:=by decide
def psP(PP:List (Np.Span×Np.Signed))(sp:Np.Span)(sets:List Np.Signed)(j:Nat):List (Np.Span×Np.Signed):=PP++(sets.take j).map λs=>(sp,s)
theorem Xp(PP:List (Np.Span×Np.Signed))(sp:Np.Span)(sets:List Np.Signed):psP PP sp sets 0=PP:=by simp[psP]
theorem Xl{PP:List (Np.Span×Np.Signed)}{sp:Np.Span}{sets:List Np.Signed}{j:Nat}(h:sets.length=j):psP PP sp sets j=PP++sets.map λs=>(sp,s):=by unfold psP;rw[kQ (by omega)]
theorem Xo{PP:List (Np.Span×Np.Signed)}{sp:Np.Span}{sets:List Np.Signed}{j:Nat}{x:Np.Signed}(h:sets[j]?=some x):psP PP sp sets (j+1)=psP PP sp sets j ++ [(sp,x)]:=by
 obtain⟨hl,he⟩:=cQ.1 h;unfold psP;rw[fQ hl,he,List.map_append,List.append_assoc];rfl
theorem Xn{PP:List (Np.Span×Np.Signed)}{sp:Np.Span}{sets:List Np.Signed}{j:Nat}{p:Np.Span×Np.Signed}(h:p∈psP PP sp sets j):p∈PP++sets.map λs=>(sp,s):=by
 rcases List.mem_append.1 h with h | h
 ·exact List.mem_append.2 (.inl h)
 ·obtain⟨s,hs,rfl⟩:=List.mem_map.1 h;exact List.mem_append.2 (.inr (List.mem_map.2 ⟨s,List.mem_of_mem_take hs,rfl⟩))
theorem Xm(PP:List (Np.Span×Np.Signed))(sp:Np.Span)(sets:List Np.Signed)(j:Nat):(psP PP sp sets j).length<=(PP++sets.map λs=>(sp,s)).length:=by
 unfold psP;simp only[List.length_append,List.length_map,List.length_take];omega
theorem Xk{a b:List (CV×Np.Copy)}(h:a <+: b):∃ c,((b.map (·.2)).flatMap Np.m9)=((a.map (·.2)).flatMap Np.m9)++c:=by
 obtain⟨c,rfl⟩:=h;exact⟨(c.map (·.2)).flatMap Np.m9,by rw[List.map_append,List.flatMap_append]⟩
def Bt(w6:World)(bo bt bm:Nat)(zn:ByteArray)(pre:List (CV×Np.Copy))(S:Nat->Prop)(W:World):Prop:=
 ∃ (xs:List PT) (ov:Value) (M:Nat->Prop),S bo/\S bt/\S bm/\(∀ k,qS xs ov k->S k)/\(∀ k,S k->k=bo\/k=bt\/k=bm\/w6.heap.size<=k)/\(∀ k,¬ S k->M k)/\M bo/\M bt/\M bm/\
   Boxed W bo 52 ov/\Boxed W bt 4 (.bool (!pre.isEmpty))/\di bm (Np.mp (xs.map (·.1))) W/\PubR w6.heap.size M zn xs ov W/\xs.map (λx=>(x.1,x.2.1))=Np.dR ((pre.map (·.2)).flatMap Np.m9)/\RdStep (λk=>k=bo\/k=bt\/k=bm) w6 W
theorem M9(w6:World)(bo bt bm:Nat)(zn:ByteArray):eq w6.heap.size (Bt w6 bo bt bm zn):=by
 rintro pre S W W' ⟨xs,ov,M,h1,h2,h3,h4,h5,h6,m1,m2,m3,h7,h8,h9,uO,Fj,qZ⟩ av;refine⟨xs,ov,M,h1,h2,h3,h4,h5,h6,m1,m2,m3,fL h7 av h1,fL h8 av h2,h9.stays (av.keep bm h9.lt (.inr h3)),?_,Fj,⟨av.os.trans qZ.os,av.tape.trans qZ.tape,av.output.trans qZ.output,yQ qZ.size av.size,λk hk Cn=>(av.keep k (lQ hk qZ.size) (.inl hk)).trans (qZ.keep k hk Cn)⟩⟩;exact uO.leaves ⟨av.os,av.tape,av.output,av.size,λi hi hm=>⟨hm,av.keep i hi (.inr (Classical.byContradiction λhs=>hm (h6 i hs)))⟩⟩ (λg hg=>⟨av.keep g (uO.lt hg).2.1 (.inr (h4 g hg)),(uO.lt hg).2.2⟩)
theorem Xw{w6:World}{bo bt bm:Nat}{zn:ByteArray}{pre:List (CV×Np.Copy)}{S:Nat->Prop}{W W':World}(h:Bt w6 bo bt bm zn pre S W)(hb:Below W.heap.size W W'):Bt w6 bo bt bm zn pre S W':=by
 obtain⟨xs,ov,M,h1,h2,h3,h4,h5,h6,m1,m2,m3,h7,h8,h9,uO,Fj,qZ⟩:=h;exact⟨xs,ov,M,h1,h2,h3,h4,h5,h6,m1,m2,m3,bB h7 hb h7.lt,bB h8 hb h8.lt,h9.keep hb h9.lt,uO.keep hb,Fj,qZ.then_below hb⟩
theorem J9{w:World}{B:Nat}{L:List (CV×Np.Copy)}(h:∀ x∈L,CVOf w B x.1 x.2)(z:List UInt8):((L.filter λx=>x.1.str.data.toList == z).map (·.2)).flatMap Np.m9=Np.cN (L.map (·.2)) z:=by
 unfold Np.cN Np.s9;congr 1
 induction L with
 | nil=>rfl
 | cons x L ih=>
  have hx:=h x (by simp);have ih:=ih (λy hy=>h y (mQ _ hy));rw[List.map_cons,List.filter_cons,List.filter_cons,hx.apex];split
  ·rw[List.map_cons,ih]
  ·exact ih
theorem XE(e:List Value)(h:Np.Hist)(hf:Np.ww h)(L1:Np.lS h)(z:ByteArray)(hz:z.size<=140737488355328)(hp:(Np.cN h.copies z.data.toList).length<=5000)(w:World)(hR:f9 w w.heap.size)(hP:gu w)(hh:jg w w.heap.size e h) :
 Calls prog 61 #[.agg e.toArray,.string z] w λe w'=>((¬ Np.sW h z.data.toList/\e = .returned (.tuple #[.slice none 0 0,.int .i64 1]))\/(Np.sW h z.data.toList/\((¬ Np.uD h z.data.toList/\e = .returned (.tuple #[.slice none 0 0,.int .i64 4]))\/(Np.uD h z.data.toList/\∃ v',e = .returned (.tuple #[v',.int .i64 0])/\fY ea 8 0 w.heap.size w' v' (Np.pub h.copies z.data.toList)))))/\Below w.heap.size w w':=by
 have EE:=jq hh;obtain⟨hv,cv,s,dv,cX,rfl,bd,fU,h3,h4,h5,h6⟩:=hh;obtain⟨ty,eD⟩:=abK h.anchor.type;obtain⟨life,Cq⟩:=abK h.anchor.life;obtain⟨drift,La⟩:=abK h.drift;obtain⟨stop,kE⟩:=abK h.stop;have H3:=jq h3;have H4:=jq h4;have H5:=jq h5;have H6:=jq h6;have HS:=jq (And.intro bd fU);have sD:=jq hf;have cP:=jq kE;have jO:=jq (And.intro eD Cq);obtain⟨A1,c1,rfl,_,_⟩:=aj h3;obtain⟨A2,c2,rfl,_,_⟩:=aj h4;obtain⟨A3,c3,rfl,_,_⟩:=aj h5;obtain⟨A4,c4,rfl,_,_⟩:=aj h6;clear h3 h4 h5 h6 bd fU hf;obtain⟨n1,bG⟩:=abK h.hosts.length;obtain⟨n2,ct⟩:=abK h.copies.length;obtain⟨n3,dL⟩:=abK h.anchor.data.length;obtain⟨n4,ef⟩:=abK h.hints.length;rw[bG] at H3;rw[ct] at H4;rw[dL] at H5;rw[ef] at H6;rw[bG,ct,dL,ef,eD,Cq,La,kE] at EE |-;have jM:=jq ct;clear bG ct dL ef eD Cq La kE;obtain⟨r,hr⟩:=abK (Np.yes (Np.VHist h));have sU:=jq hr;clear hr;obtain⟨X,hX⟩:=abK w.heap.size;obtain⟨W1,am⟩:=abK ((((w.alloc (.cells #[.slice A1 n1 c1,.slice A2 n2 c2,.string s,.int .i64 ty,.int .i64 life,.slice A3 n3 c3,.slice A4 n4 c4,.int .i64 drift,.int .i64 stop] 29)).alloc (.cells #[.string z] 9)).alloc (.cells #[.slice none 0 0] 52)).alloc (.cells #[.int .i64 0] 37));have aI:Below w.heap.size w W1:=by rw[<-am];exact ((((vQ _ _).alloc (bQ _) _).alloc (by simp <;> omega) _).alloc (by simp <;> omega) _).alloc (by simp <;> omega) _
 have kL:W1.heap.size=X+4:=by rw[<-am,<-hX];simp
 have k0:W1.cell? ⟨X,0,none⟩=some (.slice A1 n1 c1):=by rw[<-am,<-hX];simp[go_sem]
 have k1:W1.cell? ⟨X,1,none⟩=some (.slice A2 n2 c2):=by rw[<-am,<-hX];simp[go_sem]
 have k2:W1.cell? ⟨X,2,none⟩=some (.string s):=by rw[<-am,<-hX];simp[go_sem]
 have k3:W1.cell? ⟨X,3,none⟩=some (.int .i64 ty):=by rw[<-am,<-hX];simp[go_sem]
 have k4:W1.cell? ⟨X,4,none⟩=some (.int .i64 life):=by rw[<-am,<-hX];simp[go_sem]
 have k5:W1.cell? ⟨X,5,none⟩=some (.slice A3 n3 c3):=by rw[<-am,<-hX];simp[go_sem]
 have k6:W1.cell? ⟨X,6,none⟩=some (.slice A4 n4 c4):=by rw[<-am,<-hX];simp[go_sem]
 have k7:W1.cell? ⟨X,7,none⟩=some (.int .i64 drift):=by rw[<-am,<-hX];simp[go_sem]
 have k8:W1.cell? ⟨X,8,none⟩=some (.int .i64 stop):=by rw[<-am,<-hX];simp[go_sem]
 have kz:W1.cell? ⟨X+1,0,none⟩=some (.string z):=by rw[<-am,<-hX];simp[go_sem]
 have HO:Hid (Boxed W1 (X+1+1) 52 (.slice none 0 0)):=jq (by
  rw[<-am,<-hX]
  have:=(Boxed.new ((w.alloc (.cells #[.slice A1 n1 c1,.slice A2 n2 c2,.string s,.int .i64 ty,.int .i64 life,.slice A3 n3 c3,.slice A4 n4 c4,.int .i64 drift,.int .i64 stop] 29)).alloc (.cells #[.string z] 9)) 52 (.slice none 0 0)).alloc (.cells #[.int .i64 0] 37)
  simpa using this)
 have HE:Hid (Boxed W1 (X+1+1+1) 37 (.int .i64 0)):=jq (by
  rw[<-am,<-hX]
  have:=Boxed.new (((w.alloc (.cells #[.slice A1 n1 c1,.slice A2 n2 c2,.string s,.int .i64 ty,.int .i64 life,.slice A3 n3 c3,.slice A4 n4 c4,.int .i64 drift,.int .i64 stop] 29)).alloc (.cells #[.string z] 9)).alloc (.cells #[.slice none 0 0] 52)) 37 (.int .i64 0)
  simpa using this)
 have ii:=jq hR;have mB:=jq hP;have xy:=jq L1;have pC:=jq hp;have pt:Hid (1<w.heap.size):=jq hP.lt;rw[hX] at aI H3 H4 H5 H6 EE ii pt |-;have aL:=jq aI;clear aI hR hP L1 hp;refine (callsIn_wide (n:=0)).1 ?_;refine callsIn_of_wp_marks func61 rfl trivial ?_ rfl;simp only[ntmps61,List.size_toArray,List.length_cons,List.length_nil,Nat.reduceAdd,Nat.reduceSub,Array.replicate_succ,Array.replicate_zero,List.push_toArray,List.append_toArray,List.nil_append,List.cons_append];gi_wp2_with fail;refine⟨trivial,rfl,?_⟩;refine (callsIn_wide.2 (Ug _ h sD.out W1 ((ii.out.keep aL.out).more (by omega)) (rW _ _ _ _ _ (rV _ _ _ _ _ EE.out aL.out) (by omega)))).mono ?_;rw[sU.out];rintro e w2 ⟨rfl,ab⟩;have aO:=ab.size;have m0:=abZ ab k0;have m1:=abZ ab k1;have m2:=abZ ab k2;have m3:=abZ ab k3;have m4:=abZ ab k4;have m5:=abZ ab k5;have m6:=abZ ab k6;have m7:=abZ ab k7;have m8:=abZ ab k8;have mz:=abZ ab kz;have dh:=jq (aeQ HO.out ab);have oi:=jq (aeQ HE.out ab);have ai:=abJ aL ab;clear ab am hX k0 k1 k2 k3 k4 k5 k6 k7 k8 kz
 cases r with
 | false=>
  have HN:Hid (¬ Np.VHist h):=jq (λh=>by have:=Np.bS h;rw[sU.out] at this;cases this);have y0:=dh.out.cell;have y1:=dh.out.frozen;have z0:=oi.out.cell;have z1:=oi.out.frozen;gi_wp2_with fail;refine⟨trivial,?_⟩;gi_wp2_with fail;obtain⟨W,hW⟩:=abK ((w2.setCell ⟨X+1+1,0,none⟩ (.slice none 0 0)).setCell ⟨X+1+1+1,0,none⟩ (.int .i64 1));have DP:Hid (Below X w W):=jq (by rw[<-hW];exact ((ai.out.setCell (p:=⟨X+1+1,0,none⟩) (by dsimp only;omega) _).setCell (p:=⟨X+1+1+1,0,none⟩) (by dsimp only;omega) _));have e0:W.cell? ⟨X+1+1,0,none⟩=some (.slice none 0 0):=by rw[<-hW];simp[go_sem,y0]
  have e1:W.cell? ⟨X+1+1+1,0,none⟩=some (.int .i64 1):=by rw[<-hW];simp[go_sem,z0]
  rw[hW];exact lY (v:=.tuple #[.slice none 0 0,.int .i64 1]) (by simp[results,results61,go_sem,e0,e1]) ⟨.inl ⟨λh=>HN.out h.1,rfl⟩,DP.out⟩
 | true=>
  have HV:Hid (Np.VHist h):=jq (Np.fo.1 sU.out);gi_wp2_with fail;refine⟨trivial,rfl,?_⟩;refine (callsIn_wide.2 (nameValid_any z hz _)).mono ?_;rintro e w3 ⟨rfl,ah⟩;have fW:=ah.size;replace m0:=abZ ah m0;replace m1:=abZ ah m1;replace m2:=abZ ah m2;replace m3:=abZ ah m3;replace m4:=abZ ah m4;replace m5:=abZ ah m5;replace m6:=abZ ah m6;replace m7:=abZ ah m7;replace m8:=abZ ah m8;replace mz:=abZ ah mz;have ig:=jq (aeQ dh.out ah);have DY:=jq (aeQ oi.out ah);have aB:=abJ ai ah;clear ah
  cases fh:Np.aD z.data.toList with
  | false=>
   have lh:=jq fh;clear fh;have y0:=ig.out.cell;have y1:=ig.out.frozen;have z0:=DY.out.cell;have z1:=DY.out.frozen;gi_wp2_with fail;obtain⟨W,hW⟩:=abK ((w3.setCell ⟨X+1+1,0,none⟩ (.slice none 0 0)).setCell ⟨X+1+1+1,0,none⟩ (.int .i64 1));have DP:Hid (Below X w W):=jq (by rw[<-hW];exact ((aB.out.setCell (p:=⟨X+1+1,0,none⟩) (by dsimp only;omega) _).setCell (p:=⟨X+1+1+1,0,none⟩) (by dsimp only;omega) _));have e0:W.cell? ⟨X+1+1,0,none⟩=some (.slice none 0 0):=by rw[<-hW];simp[go_sem,y0]
   have e1:W.cell? ⟨X+1+1+1,0,none⟩=some (.int .i64 1):=by rw[<-hW];simp[go_sem,z0]
   rw[hW];exact lY (v:=.tuple #[.slice none 0 0,.int .i64 1]) (by simp[results,results61,go_sem,e0,e1]) ⟨.inl ⟨λh=>absurd h.2 (by rw[lh.out];simp),rfl⟩,DP.out⟩
  | true=>
   have lh:=jq fh;have bk:Hid (Np.sW h z.data.toList):=jq ⟨HV.out,fh⟩;clear fh;have hX4:X+4<=w3.heap.size:=by omega
   have tF:∀ (w:World),(Instr.makeMap 213 none).run prog w = .ok (.map (some w.heap.size)) (w.alloc (.map #[] 0)):=λw=>by
    simp[Instr.makeMap,Result.andThen]
   obtain⟨Bh,yb⟩:=abK w3.heap.size;obtain⟨w4,bH⟩:=abK ((((w3.alloc (.cells #[.slice none 0 0] 52)).alloc (.cells #[.bool false] 4)).alloc (.map #[] 0)).alloc (.cells #[.map (some (Bh+1+1))] 213));have aq:Below w3.heap.size w3 w4:=by rw[<-bH];exact ((((vQ _ _).alloc (bQ _) _).alloc (by simp) _).alloc (by simp <;> omega) _).alloc (by simp <;> omega) _
   have gX:w4.heap.size=Bh+4:=by rw[<-bH,<-yb];simp
   have v0:=abZ aq m0;have v1:=abZ aq m1;have v2:=abZ aq m2;have v3:=abZ aq m3;have v4:=abZ aq m4;have v5:=abZ aq m5;have v6:=abZ aq m6;have v7:=abZ aq m7;have v8:=abZ aq m8;have vz:=abZ aq mz;have sK:=jq (aeQ ig.out aq);have Pv:=jq (aeQ DY.out aq);have bJ:=abJ aB aq;have Pa:Hid (Boxed w4 Bh 52 (.slice none 0 0)):=jq (by
    rw[<-bH,<-yb];exact (((Boxed.new w3 52 (.slice none 0 0)).alloc _).alloc _).alloc _)
   have Pc:Hid (Boxed w4 (Bh+1) 4 (.bool false)):=jq (by
    rw[<-bH,<-yb]
    have:=((Boxed.new (w3.alloc (.cells #[.slice none 0 0] 52)) 4 (.bool false)).alloc (.map #[] 0)).alloc (.cells #[.map (some (w3.heap.size+1+1))] 213)
    simpa using this)
   have O7:Hid (di (Bh+1+1) [] w4):=jq (by
    rw[<-bH,<-yb]
    have:=(di.made ((w3.alloc (.cells #[.slice none 0 0] 52)).alloc (.cells #[.bool false] 4))).stays (w':=((((w3.alloc (.cells #[.slice none 0 0] 52)).alloc (.cells #[.bool false] 4)).alloc (.map #[] 0)).alloc (.cells #[.map (some (w3.heap.size+1+1))] 213))) (Below.heap_alloc _ _ _ (by simp))
    simpa using this)
   have Pg:Hid (Boxed w4 (Bh+1+1+1) 213 (.map (some (Bh+1+1)))):=jq (by
    rw[<-bH,<-yb]
    have:=Boxed.new (((w3.alloc (.cells #[.slice none 0 0] 52)).alloc (.cells #[.bool false] 4)).alloc (.map #[] 0)) 213 (.map (some (w3.heap.size+1+1)))
    simpa using this)
   clear m0 m1 m2 m3 m4 m5 m6 m7 m8 mz;gi_wp2_with fail;clear tF aq;refine⟨trivial,rfl,?_⟩;refine (callsIn_wide.2 (RO _ _ _ _ _ _ _ _ _ 138 #[.pointer (some ⟨X+1,0,none⟩)] w4)).mono ?_;rintro e w6 ⟨rfl,dC⟩;have ke:w6.heap.size=Bh+6:=by rw[dC];simp;omega
   have aV:Below w4.heap.size w4 w6:=by rw[dC];exact ((vQ _ _).alloc (bQ _) _).alloc (by simp) _
   have kX:w6.cell? ⟨Bh+4,1,none⟩=some (.slice A2 n2 c2):=by rw[dC,<-gX];simp[go_sem]
   have kO:w6.cell? ⟨Bh+4+1,0,none⟩=some (.func (.func 138) #[] #[.pointer (some ⟨X+1,0,none⟩)]):=by rw[dC,show Bh+4+1=w4.heap.size+1 by omega];simp[go_sem]
   rw[gX];obtain⟨L,lk,tg,Ft⟩:=R1 (H4.out.keep nj (bJ.out.trans (aV.acQ)));have xb:=jq (abZ aV vz);have AX:=jq (RP L (λx=>x.1.str.data.toList == z.data.toList) 138 #[.pointer (some ⟨X+1,0,none⟩)] (Bh+4) (Bh+4+1) n2 c2 (λk=>k<w6.heap.size/\¬ (k=Bh\/k=Bh+1\/k=Bh+1+1)) A2 w6 ⟨by omega,by omega⟩ ⟨by omega,by omega⟩ kX kO tg (by have:=sD.out.1;have:=jM.out;omega)
    (λi x hx=>by
      obtain⟨_,b,o,h1,h2,h3⟩:=Ft i x hx;exact⟨b,o,h1,⟨by omega,by omega⟩,h3⟩) Sd
    (λx hx W hW=>by
      have h1:=(hW.cell (p:=⟨X+1,0,none⟩) ⟨by dsimp only;omega,by dsimp only;omega⟩).trans xb.out
      have:=hW.1
      exact Xr x.1.host x.1.frm x.1.til x.1.str _ x.1.A x.1.n x.1.c rfl (X+1) z W (by omega) h1))
   have xg:=jq (aeQ sK.out aV);have Px:=jq (aeQ Pv.out aV);have Pb:=jq (aeQ Pa.out aV);have Pd:=jq (aeQ Pc.out aV);have O8:Hid (di (Bh+1+1) [] w6):=jq (O7.out.keep aV (by omega));have Ph:=jq (aeQ Pg.out aV);have cF:=abJ bJ aV;have pz:=jq lk;have nB:Hid (∀ x∈L,CVOf w6 X x.1 x.2):=jq (λx hx=>by obtain⟨i,hi⟩:=List.mem_iff_getElem?.1 hx;exact (Ft i x hi).1);clear aV dC bH kX kO lk Ft v0 v1 v2 v3 v4 v5 v6 v7 v8 vz;have HZ6:=jq ke;gi_wp2_with fail;refine OD (Dr:=λk=>k<w6.heap.size/\¬ (k=Bh\/k=Bh+1\/k=Bh+1+1)) (w0:=w6) (first:=#[]) (captured:=#[.pointer (some ⟨Bh+4,0,none⟩),.pointer (some ⟨Bh+4+1,0,none⟩)]) (gf:=141) rfl Sa (mk:=λy=>#[y,.pointer (some ⟨Bh+4,0,none⟩),.pointer (some ⟨Bh+4+1,0,none⟩)]) (λ_=>rfl)
    AX.out (eK.refl λk e=>e.1) (λ_=>rfl) (Bt w6 Bh (Bh+1) (Bh+1+1) z) (λ_ _ _ _=>False)
    (M9 _ _ _ _ _) (λc s S W W' h _=>h)
    (λk=>k=Bh\/k=Bh+1\/k=Bh+1+1) (λk h1 h2=>h2.2 h1) (by intro k h;omega)
    ⟨[],.slice none 0 0,λk=>k=Bh\/k=Bh+1\/k=Bh+1+1\/¬ (k=Bh\/k=Bh+1\/k=Bh+1+1),.inl rfl,.inr (.inl rfl),.inr (.inr rfl),(λk e=>by rcases e with e | ⟨x,hx,_⟩;cases e;cases hx),(λk e=>by omega),(λk e=>.inr (.inr (.inr e))),.inl rfl,.inr (.inl rfl),.inr (.inr (.inl rfl)),Pb.out,Pd.out,O8.out,PubR.nil _ _ _ _,rfl,RdStep.refl _ _⟩ ?round ?done ?stop
   case stop=>
    rintro D c pre S W hD ew aM gD h hK;exact h.elim
   case done=>
    rintro D S W hD ew aM ⟨us,ov,M,B2,yj,B0,hown,yi,yg,mbo,mbt,mbm,dX,pV,rc,uS,vr,aA⟩ hK;obtain⟨te,Gr⟩:=abK ((L.filter λx=>x.1.str.data.toList == z.data.toList).isEmpty);have IB:Hid (Np.uD h z.data.toList↔te=false):=jq (by
     rw[<-Gr,List.isEmpty_eq_false_iff_exists_mem];constructor
     ·rintro⟨c,hc,hz⟩;rw[<-pz.out] at hc;obtain⟨x,hx,rfl⟩:=List.mem_map.1 hc;exact⟨x,List.mem_filter.2 ⟨hx,by rw[(nB.out x hx).apex,hz];simp⟩⟩
     ·rintro⟨x,hx⟩;obtain⟨h1,h2⟩:=List.mem_filter.1 hx;refine⟨x.2,by rw[<-pz.out];exact List.mem_map.2 ⟨x,h1,rfl⟩,?_⟩;rw[<-(nB.out x h1).apex];simpa using h2)
    rw[Gr] at pV;have kh:Hid (us.map (λx=>(x.1,x.2.1))=Np.dR (Np.cN h.copies z.data.toList)):=jq (by rw[vr,J9 nB.out,pz.out]);have yl:=aA.size;have Ir:Hid (D<W.heap.size):=jq (eQ.1 hK).1;have uP:Below X w6 W:=aA.below (by omega) (λk e=>by omega);have Ip:Hid (Below X w W):=abJ cF uP;have gq:Hid (Boxed W (X+1+1) 52 (.slice none 0 0)):=jq ((aA.keep (X+1+1) (by omega) (by omega)).trans xg.out);have qH:Hid (Boxed W (X+1+1+1) 37 (.int .i64 0)):=jq ((aA.keep (X+1+1+1) (by omega) (by omega)).trans Px.out);have DH:=jq dX;have uy:=jq ew;have el:=jq yi;have IM:=jq hK;have Et:=jq (PubK.start uS yg hown);have t0:=pV.cell;clear Gr vr aA uP dX pV rc uS yg hown yi ew hK mbo mbt mbm B2 yj B0 aM;have B5:X+1+1≠D:=by omega
    have BW:X+1+1+1≠D:=by omega
    cases te with
    | true=>
     simp only[Bool.not_true] at t0;have o0:=gq.out.cell;have o1:=gq.out.frozen;have q0:=qH.out.cell;have q1:=qH.out.frozen;gi_wp2_with fail;obtain⟨W',hW'⟩:=abK ((W.setCell ⟨X+1+1,0,none⟩ (.slice none 0 0)).setCell ⟨X+1+1+1,0,none⟩ (.int .i64 4));have CG:W'.heap.size=W.heap.size:=by rw[<-hW'];simp
     have Cm:∀ k,k≠X+1+1->k≠X+1+1+1->W'.heap[k]?=W.heap[k]?:=λk h1 h2=>by rw[<-hW'];exact (wQ _ _ _ k h2).trans (wQ _ _ _ k h1)
     have Fm:Below X w W':=by rw[<-hW'];exact ((Ip.out.setCell (p:=⟨X+1+1,0,none⟩) (by dsimp only;omega) _).setCell (p:=⟨X+1+1+1,0,none⟩) (by dsimp only;omega) _)
     have rC:W'.os=W.os/\W'.tape=W.tape/\W'.output=W.output:=by rw[<-hW'];simp[World.setCell]
     have Fs:W'.heap[D]?=some (.deferred (some [])):=(Cm D (Ne.symm B5) (Ne.symm BW)).trans IM.out;have e0:W'.cell? ⟨X+1+1,0,none⟩=some (.slice none 0 0):=by rw[<-hW'];simp[go_sem,o0]
     have e1:W'.cell? ⟨X+1+1+1,0,none⟩=some (.int .i64 4):=by rw[<-hW'];simp[go_sem,q0]
     have f0:=(iQ (w:=W') (w':=W'.putObj D (.deferred none)) (a:=⟨X+1+1,0,none⟩) (zQ B5)).trans e0;have f1:=(iQ (w:=W') (w':=W'.putObj D (.deferred none)) (a:=⟨X+1+1+1,0,none⟩) (zQ BW)).trans e1;rw[hW'];refine mN Fs (v:=.tuple #[.slice none 0 0,.int .i64 4]) (by simp[results,results61,go_sem,f0,f1]) ⟨.inr ⟨bk.out,.inl ⟨(λh=>by have:=IB.out.1 h;cases this),rfl⟩⟩,mK Fm (by omega) _⟩
    | false=>
     simp only[Bool.not_false] at t0;obtain⟨n,hn⟩:=abK us.length;obtain⟨oA,oc,rfl⟩:=Et.out.rows.row.formN hn;have IX:=jq hn;have b0:=DH.out.cell;obtain⟨PS,BZ⟩:=abK (Np.cN h.copies z.data.toList);have pD:=jq BZ;rw[BZ] at kh;have IT:Hid ((Np.dR PS).length=n):=jq (by rw[<-kh.out,List.length_map];exact hn);have LF:n<=5000:=by rw[<-hn];have h1:=MI kh.out;have h2:=pC.out;rw[BZ] at h2;omega
     clear hn BZ;gi_wp2_with fail;gi_loopw [83] (λI wr=>∃ (i:Nat) (us':List PT) (ov':Value) (M':Nat->Prop),i<=n/\I = .int .i64 i/\W.heap.size<=wr.heap.size/\Hid (us'.length=n)/\Hid (Boxed wr Bh 52 ov')/\Hid (PubK S W w6.heap.size z M' us' ov' wr)/\Hid (us'.map (λx=>(x.1,x.2.1))=oT (Np.dR PS) i)) (λI _=>n - (intOf I).toNat)
     case atStart=>exact⟨0,us,_,_,jQ _,rfl,bQ _,IX,DH,Et,jq (by rw[WX];exact kh.out)⟩
     case round=>
      clear DH Et kh IX b0 t0;obtain⟨i,us',ov',M',hi,rfl,Vy,ux,uk,fK,Eh⟩:=hrel;by_cases aa:i<n
      ·obtain⟨g,cap,rfl,dw,F0,tv⟩:=fK.out.rows.row.formSome ux.out (by omega);have IF:Hid (i<(Np.dR PS).length):=jq (by rw[IT.out];exact aa);obtain⟨⟨xs,xt,xv⟩,hx,hl⟩:=MT Eh.out IF.out;dsimp only at hl;have CD:=Np.MJ hl;have rB:aG w6.heap.size wr xv xt:=fK.out.rows.fresh _ (gQ hx);have Iv:Hid (SlR cB 2 wr wr.heap.size xv xt):=jq (rB.slr (by have h1:=Np.Hl PS xs;rw[<-CD] at h1;have h2:=pC.out;rw[pD.out] at h2;omega));have Qw:Hid (∀ s∈xt,Np.xK s):=jq (λs hs=>Np.XB (h:=h) (zone:=z.data.toList) (s:=xs) (by rw[pD.out,<-CD];exact hs) HV.out);have Qz:Hid (xt.length<=20000):=jq (by have h1:=Np.Hl PS xs;rw[<-CD] at h1;have h2:=pC.out;rw[pD.out] at h2;omega);have HX:=jq hx;obtain⟨fA,fc,rfl⟩:=aG.form rB;have f6:wr.cell? ⟨g,i * 8+6,none⟩=some (.slice fA xt.length fc):=FY fK.out.rows.row hx;obtain⟨fn,gT⟩:=abK xt.length;rw[gT] at f6 HX Iv;have b6:=uk.out.cell;have nU:(0:Int)<=(i:Int):=by omega
       have jr:(i:Int)<(n:Int):=by omega
       clear hx hl CD rB gT tv;gi_wp2_with fail;refine Dq λa0 dF=>?_;have ph:=jq dF;have fB:=jq (show a0.eval (.tmp 6) = .pointer (some ⟨Bh,0,none⟩) by rw[dF];rfl);have Ic:=jq (show a0.eval (.tmp 15) = .int .i64 (i:Nat) by rw[dF];rfl);have HM:=jq (show a0.tmps.size=101 by rw[dF];rfl);clear dF;refine wpIn_wide.2 (wp_region_any (by kernel_rfl) ?_);refine jC 7 (D:=[0,1,2,3,4,5,6,11,12]) (val:=nh g n cap i fA fn fc undef) CU CW (yJ HM.out) (by kernel_rfl) ?_ ?_
       ·intro i bl de o ho a' hb bw;have k6':=adK hb fB.out;have k15':=adK hb Ic.out;simp[Act.eval] at k6' k15'
        repeat' (rcases bl with _ | ⟨_,bl⟩)
        all_goals first
         | (exfalso;simp at de;done)
         | (cases ho
            try simp[Act.eval,Region.binds,nh,ng] at bw
            refine iX (by simp[Region.wanted]) ?_;simp[Oper.quietAt,Oper.quietUpon,execOp,go_sem,nh,k6',k15',b6,f6,nU,jr,zW,CX,bw])
       ·intro f listed a' hH hr hv;have av6:=hv 6;simp[Act.eval,nh,ng] at av6;simp only[wpOp];simp[Region.wanted];refine .inl ?_;simp[Oper.wp,go_sem,av6];refine (MQ _ xt Qz.out Qw.out wr.drew (Iv.out.keep bR (vQ wr.heap.size wr).drew)).mono ?_;rintro e wC ⟨v2,rfl,gh,yv⟩;have dM:Below wr.heap.size wr wC:=(vQ wr.heap.size wr).drew.trans yv;have Mg:=dM.size;replace b6:=abZ dM b6;replace f6:=abZ dM f6;have tu:=(World.frozen?_of_block (a:=⟨g,i * 8+6,none⟩) (dM.block g (by omega))).trans (fK.out.rows.row.frozenAt ux.out _);obtain⟨gA,gc,rfl⟩:=aG.form gh;obtain⟨gn,ip⟩:=abK ((Np.fX xt).length);rw[ip] at gh |-;have dh:=jq gh;have jG:=jq dM;clear gh dM yv ip;dsimp only;refine jC 13 (D:=[0,1,2,3,4,5,6,8,9,10,11,12,7]) (val:=nh g n cap i fA fn fc (.tuple #[.slice gA gn gc,.int .i64 0])) CU CW (hH.next CU CW hr) (by kernel_rfl) ?_ ?_
        ·intro i bl de o ho a' hb bw;have k6':=adK hb fB.out;have k15':=adK hb Ic.out;simp[Act.eval] at k6' k15'
         repeat' (rcases bl with _ | ⟨_,bl⟩)
         all_goals first
          | (exfalso;simp at de;done)
          | (cases ho
             try simp[Act.eval,Region.binds,nh,ng] at bw
             refine iX (by simp[Region.wanted]) ?_;simp[Oper.quietAt,Oper.quietUpon,execOp,go_sem,nh,k6',k15',b6,f6,nU,jr,zW,CX,bw])
        ·intro f listed a' hH hr hv;have av9:=hv 9;have av12:=hv 12;simp[Act.eval,nh,ng,zW] at av9 av12;simp only[wpOp];simp[Region.wanted];refine .inl ?_;simp[Oper.wp,execOp,go_sem,av9,av12,f6,tu];clear b6 f6 tu;obtain⟨W',hW'⟩:=abK (wC.setCell ⟨g,i * 8+6,none⟩ (.slice gA gn gc));have IK:=jq (fK.out.normed ux.out HX.out (ps':=Np.fX xt) jG.out dh.out (by have:=fK.out.rd.size;omega));rw[hW'] at IK |-;have eN:Below w6.heap.size wr W':=by rw[<-hW'];exact (jG.out.mono (by have:=fK.out.rd.size;omega)).setCell (by dsimp only;omega) _
         have AF:=jq (aeQ uk.out eN);clear eN;have Mh:W'.heap.size=wC.heap.size:=by rw[<-hW'];simp[World.setCell]
         refine ZR (R:=[10]) (D:=[0,1,2,3,4,5,6,8,9,10,11,12,7]) (dst:=ng) (val:=nh g n cap i fA fn fc (.tuple #[.slice gA gn gc,.int .i64 0])) (a0:=a0) (m:=101) HM.out (OA (by kernel_rfl)) (by simp) (λi hi=>?_) (λi hi=>by simp at hi;subst hi;exact⟨_,rfl,rfl⟩) (λi hi=>(CU i hi).1) CW (λi hi o ho e he hb=>?_) (λi hi o ho a' bw=>?_) ?_ _ _ _ (hH.rest hr (by simp) (by kernel_rfl))
         ·simp at hi |-;omega
         ·simp at hi;subst hi
          cases ho
          simp at he;rcases he with rfl | rfl
          ·simp
          ·simp[Region.binds] at hb
         ·simp at hi;subst hi
          cases ho
          simp[Act.eval,Region.binds,nh,ng] at bw;refine iX (by simp[Region.wanted]) ?_;simp[Oper.quietAt,Oper.quietUpon,execOp,go_sem,nh,zW,CX,bw]
         ·rw[ph.out];simp[ni,Act.put,nh,ng];clear hv hH;gi_wp2_with fail;go_roundw
          case measure=>simp[intOf] <;> omega
          case rel=>exact⟨i+1,_,_,_,by omega,by go_num,by omega,jq (by rw[List.length_set];exact ux.out),AF,IK,jq (WW Eh.out IF.out HX.out _)⟩
      ·obtain rfl:i=n:=by omega
       obtain⟨oA',oc',rfl⟩:=fK.out.rows.row.formN ux.out;have b0:=uk.out.cell;have KU:¬ S (X+1+1):=λe=>by have:=el.out _ e;omega
       have KM:¬ S (X+1+1+1):=λe=>by have:=el.out _ e;omega
       have I1:Hid (Boxed wr (X+1+1) 52 (.slice none 0 0)):=jq ((fK.out.rd.keep (X+1+1) (by omega) KU).trans gq.out);have It:Hid (Boxed wr (X+1+1+1) 37 (.int .i64 0)):=jq ((fK.out.rd.keep (X+1+1+1) (by omega) KM).trans qH.out);have qJ:Hid (wr.heap[D]?=some (.deferred (some []))):=jq ((fK.out.rd.keep D Ir.out uy.out).trans IM.out);have cw:Hid (Below X w wr):=jq (Ip.out.trans (fK.out.rd.below (by omega) (λk e=>by have:=el.out k e;omega)));have o0:=I1.out.cell;have o1:=I1.out.frozen;have q0:=It.out.cell;have q1:=It.out.frozen;gi_wp2_with fail;obtain⟨W',hW'⟩:=abK ((wr.setCell ⟨X+1+1,0,none⟩ (.slice oA' i oc')).setCell ⟨X+1+1+1,0,none⟩ (.int .i64 0));have CG:W'.heap.size=wr.heap.size:=by rw[<-hW'];simp
       have Cm:∀ k,k≠X+1+1->k≠X+1+1+1->W'.heap[k]?=wr.heap[k]?:=λk h1 h2=>by rw[<-hW'];exact (wQ _ _ _ k h2).trans (wQ _ _ _ k h1)
       have Fm:Below X w W':=by rw[<-hW'];exact ((cw.out.setCell (p:=⟨X+1+1,0,none⟩) (by dsimp only;omega) _).setCell (p:=⟨X+1+1+1,0,none⟩) (by dsimp only;omega) _)
       have rC:W'.os=wr.os/\W'.tape=wr.tape/\W'.output=wr.output:=by rw[<-hW'];simp[World.setCell]
       have Fs:W'.heap[D]?=some (.deferred (some [])):=(Cm D (Ne.symm B5) (Ne.symm BW)).trans qJ.out;have e0:W'.cell? ⟨X+1+1,0,none⟩=some (.slice oA' i oc'):=by rw[<-hW'];simp[go_sem,o0]
       have e1:W'.cell? ⟨X+1+1+1,0,none⟩=some (.int .i64 0):=by rw[<-hW'];simp[go_sem,q0]
       have f0:=(iQ (w:=W') (w':=W'.putObj D (.deferred none)) (a:=⟨X+1+1,0,none⟩) (zQ B5)).trans e0;have f1:=(iQ (w:=W') (w':=W'.putObj D (.deferred none)) (a:=⟨X+1+1+1,0,none⟩) (zQ BW)).trans e1;rw[hW'];have Uo:∀ k,k≠X+1+1->k≠X+1+1+1->k≠D->(W'.putObj D (.deferred none)).heap[k]?=wr.heap[k]?:=λk h1 h2 h3=>(zQ h3).trans (Cm k h1 h2);have Vu:(W'.putObj D (.deferred none)).heap.size=wr.heap.size:=by simpa using CG
       have I5:=jq (fK.out.calm (T:=λk=>k=X+1+1\/k=X+1+1+1\/k=D) (λk e=>by
        rcases e with rfl | rfl | rfl
        ·exact⟨by omega,KU⟩
        ·exact⟨by omega,KM⟩
        ·exact⟨Ir.out,uy.out⟩) (w':=W'.putObj D (.deferred none)) rC Vu (λk hk=>Uo k (λe=>hk (.inl e)) (λe=>hk (.inr (.inl e))) (λe=>hk (.inr (.inr e)))))
       refine mN Fs (v:=.tuple #[.slice oA' i oc',.int .i64 0]) (by simp[results,results61,go_sem,f0,f1]) ⟨.inr ⟨bk.out,.inr ⟨(by have h1:=IB.out;simpa using h1),_,rfl,?_⟩⟩,mK Fm (by omega) _⟩;intro Mq Td;have qu:=ux.out;have LD:us'.map (λx=>(x.1,x.2.1))=(Np.dR PS).map λx=>(x.1,Np.fX x.2):=by rw[Eh.out,WV IT.out]
       have UJ:(us'.map λx=>(⟨z.data.toList,x.1,x.2.1,[]⟩:Np.Held))=Np.pub h.copies z.data.toList:=by
        have h1:=Qd (List.map λx:Np.Signed×List Np.Span=>(⟨z.data.toList,x.1,x.2,[]⟩:Np.Held)) LD;rw[List.map_map,List.map_map] at h1;refine Eq.trans h1 ?_;rw[<-pD.out];exact (Np.Ww Np.fX _ _).symm
       rw[<-UJ];exact I5.out.slr hz (by omega) (λx hx=>by
        have h1:(x.1,x.2.1)∈us'.map (λx=>(x.1,x.2.1)):=List.mem_map.2 ⟨x,hx,rfl⟩;rw[LD] at h1;obtain⟨y,hy,he⟩:=List.mem_map.1 h1;simp only[Prod.mk.injEq] at he;rw[<-he.2];obtain⟨j,hj⟩:=List.mem_iff_getElem?.1 hy;have h2:=tU y.2;have h3:=Np.Hl PS y.1;rw[<-Np.MJ hj] at h3;have h4:=pC.out;rw[pD.out] at h4;omega) (λk hk=>by
        have h1:=Td k hk;refine⟨fK.out.ex k (by omega) (λe=>by have:=el.out k e;omega),λe=>by have:=(I5.out.lt e).1;omega⟩)
   case round=>
    rintro l0 pre ⟨⟨xh,xf,xt,xs,xA,xn,xc⟩,cc⟩ S W aU hI eW;have EM:Hid ((⟨⟨xh,xf,xt,xs,xA,xn,xc⟩,cc⟩:CV×Np.Copy)∈L):=jq ((List.mem_filter.1 (aU.subset (by simp:(⟨⟨xh,xf,xt,xs,xA,xn,xc⟩,cc⟩:CV×Np.Copy)∈_))).1);have nJ:=Xw hI ((vQ _ W).alloc (bQ _) (.cells #[.int .i64 xh,.int .i64 xf,.int .i64 xt,.string xs,.slice xA xn xc] 46));have yl:w6.heap.size<=W.heap.size:=by obtain⟨_,_,_,_,_,_,_,_,_,_,_,_,_,_,_,_,_,hB⟩:=hI;exact hB.size
    have mC:=jq aU;clear hI aU;gi_wp2;refine⟨λk=>S k\/k=W.heap.size,(RdStep.refl S W).alloc _,λk e=>e.imp id (λh=>by omega),λk e=>by rcases e with e | e;have:=eW k e;simp;omega;simp;omega,?_⟩;intro l W₂ av;have S9:=M9 w6 Bh (Bh+1) (Bh+1+1) z pre S _ W₂ nJ (av.weaken (bQ _) (λk e=>.inl e));have kF:=av.size;simp only[World.size_alloc] at kF;have ku:W₂.heap[W.heap.size]?=some (.cells #[.int .i64 xh,.int .i64 xf,.int .i64 xt,.string xs,.slice xA xn xc] 46):=(av.keep W.heap.size (by simp) (.inr (.inr rfl))).trans (heap_alloc_new _ _);obtain⟨us,ov,M,B2,yj,B0,hown,yi,yg,mbo,mbt,mbm,dX,pV,rc,uS,vr,aA⟩:=S9;have Qv:Hid (∀ k,S k->k<W.heap.size):=jq eW;have el:=jq yi;have sP:=jq (And.intro B2 (And.intro yj B0));have AP:Hid (CVOf w6 X ⟨xh,xf,xt,xs,xA,xn,xc⟩ cc):=jq (nB.out _ EM.out);have uP:Below X w6 W₂:=aA.below (by omega) (λk e=>by omega);have O0:=jq (cF.out.trans uP);have eU:=jq aA;obtain⟨sets,vF⟩:=abK cc.zone.sets;have xx:=jq vF;have Qu:Hid (SlR cA 5 W₂ X (.slice xA xn xc) sets):=jq (by have:=(AP.out.keep uP).sets;rw[vF] at this;exact this);have Mc:sets.length=xn:=by rw[<-vF];exact AP.out.len
    have Jq:=jq Mc;have re:cc∈h.copies:=by rw[<-pz.out];exact List.mem_map.2 ⟨_,EM.out,rfl⟩
    have jI:=jq re;have asK:xn<=20000:=by rw[<-Mc,<-vF];exact sD.out.2 cc re
    have KS:Np.iY cc=⟨xf,xt⟩:=by
     have h1:=AP.out.frm;have h2:=AP.out.til;dsimp only at h1 h2;unfold Np.iY;rw[h1,h2]
    obtain⟨PP,Fx⟩:=abK ((pre.map (·.2)).flatMap Np.m9);rw[Fx] at vr;have oe:Hid (((pre ++ [((⟨xh,xf,xt,xs,xA,xn,xc⟩,cc):CV×Np.Copy)]).map (·.2)).flatMap Np.m9=PP++sets.map λs=>((⟨xf,xt⟩:Np.Span),s)):=jq (by
     rw[List.map_append,List.flatMap_append,Fx];simp[Np.m9,KS,vF])
    have Jh:Hid (∃ c,Np.cN h.copies z.data.toList=(PP++sets.map λs=>((⟨xf,xt⟩:Np.Span),s))++c):=jq (by
     obtain⟨c,hc⟩:=Xk mC.out;rw[oe.out,J9 nB.out,pz.out] at hc;exact⟨c,hc⟩)
    have I4:Hid (∀ j,(psP PP ⟨xf,xt⟩ sets j).length<=5000):=jq (λj=>by
     obtain⟨c,hc⟩:=Jh.out;have h1:=Qd List.length hc;have h2:=Xm PP ⟨xf,xt⟩ sets j;have h3:=pC.out;rw[List.length_append] at h1;omega)
    have Qg:Hid (∀ j,∀ p∈psP PP ⟨xf,xt⟩ sets j,Np.Plain47 p.2):=jq (λj p hp=>by
     obtain⟨c,hc⟩:=Jh.out;have h1:p∈Np.cN h.copies z.data.toList:=by rw[hc];exact List.mem_append.2 (.inl (Xn hp))
     obtain⟨d,hd,_,hs,_⟩:=Np.tT.1 h1;exact Np.OQ (HV.out.each d hd).zone hs (xy.out d hd _ hs))
    obtain⟨w7,Gz⟩:=abK (W₂.setCell ⟨Bh+1,0,none⟩ (.bool true));have t7:Turned (Bh+1) W₂ w7:=by rw[<-Gz];exact⟨rfl,rfl,rfl,by simp[World.setCell],λi hi=>wQ _ _ _ _ hi⟩
    have rN:w7.heap.size=W₂.heap.size:=t7.size;have Ty:=pV.cell;have Tz:=pV.frozen;have Im:Hid (Boxed w7 (Bh+1) 4 (.bool true)):=jq (by rw[<-Gz];exact pV.set _);have Ij:Hid (Boxed w7 Bh 52 ov):=jq ((t7.block Bh (by omega)).trans dX);have Ih:Hid (di (Bh+1+1) (Np.mp (us.map (·.1))) w7):=jq (rc.stays (t7.block _ (by omega)));have my:=jq ku;have K4:=(t7.block W.heap.size (by omega)).trans ku;have IH:Hid (PubK S W₂ w6.heap.size z (λk=>M k/\k<W₂.heap.size) us ov w7):=jq ((PubK.start uS yg hown).touch ⟨mbt,pV.lt⟩ (.inl yj) (λe=>by have:=(uS.lt e).1;omega) t7);have TD:w7.cell? ⟨W.heap.size,4,none⟩=some (.slice xA xn xc):=by simp[World.cell?,K4]
    have Js:Hid (W₂.heap[X+1]?=w6.heap[X+1]?/\W₂.heap[Bh+1+1+1]?=w6.heap[Bh+1+1+1]?):=jq ⟨aA.keep _ (by omega) (by omega),aA.keep _ (by omega) (by omega)⟩;have IS:Hid ((M Bh/\Bh<W₂.heap.size)/\(M (Bh+1+1)/\Bh+1+1<W₂.heap.size)/\(M (Bh+1)/\Bh+1<W₂.heap.size)):=jq ⟨⟨mbo,by omega⟩,⟨mbm,by omega⟩,⟨mbt,by omega⟩⟩;have IU:=jq vr;have hXW:X+4<=Bh:=by omega
    have rb:Bh+6<=W.heap.size:=by omega
    have FB:W.heap.size<W₂.heap.size:=by omega
    have K3:¬ S W.heap.size:=λe=>by have:=eW _ e;omega
    have AQ:=jq K3;clear Fx vF dX pV rc uS vr aA t7 ku K4 nJ av eW yi yg mbo mbt mbm hown B2 yj B0 uP KS re K3;gi_wp2_with fail;clear Gz TD Ty Tz;obtain⟨ih,Ud,T7,T8,T9⟩:=info_parts Tryz.infoHeldA;gi_loopw [33] (λi wr=>∃ (j:Nat) (us:List PT) (ov:Value) (M:Nat->Prop),j<=xn/\i = .int .i64 j/\W₂.heap.size<=wr.heap.size/\Hid (Boxed wr Bh 52 ov)/\Hid (Boxed wr (Bh+1) 4 (.bool true))/\Hid (di (Bh+1+1) (Np.mp (us.map (·.1))) wr)/\Hid (PubK S W₂ w6.heap.size z M us ov wr)/\Hid (M Bh/\M (Bh+1+1)/\M (Bh+1))/\Hid (us.map (λx=>(x.1,x.2.1))=Np.dR (psP PP ⟨xf,xt⟩ sets j))) (λi _=>xn - (intOf i).toNat)
    case atStart=>exact⟨0,us,ov,_,jQ _,rfl,by omega,Ij,Im,Ih,IH,IS,jq (by rw[Xp];exact IU.out)⟩
    case round=>
     clear Ij Im Ih IH IS IU rN;obtain⟨j,us,ov,M,hj,rfl,Vy,uk,Io,Ii,fK,dK,kh⟩:=hrel;have cw:Hid (Below X w wr):=jq (O0.out.trans (fK.out.rd.below (by omega) (λk e=>by have:=el.out k e;omega)));have AY:Hid (∀ k,k<W₂.heap.size->¬ S k->wr.heap[k]?=W₂.heap[k]?):=jq fK.out.rd.keep;by_cases aa:j<xn
     ·obtain⟨x,ac⟩:∃ x,sets[j]?=some x:=⟨_,aQ (by rw[Jq.out];exact aa)⟩;obtain⟨b',o,c',ss,dv,sv,hA,hb',_,hs,LZ,aR,aN,e0,e1,e2,e3,e4⟩:=fk (Qu.out.keep bI (fK.out.rd.below (n:=X) (by omega) (λk e=>by have:=el.out k e;omega))) ac;simp only[Value.slice.injEq] at hA;obtain⟨rfl,-,rfl⟩:=hA;have ml:x∈cc.zone.sets:=by rw[xx.out];exact gQ ac
      have Ea:Hid (KeyS x):=jq (Z9 (HV.out.each cc jI.out).zone ml (xy.out cc jI.out x ml));have I7:Hid (Np.Plain47 x):=jq (Np.OQ (HV.out.each cc jI.out).zone ml (xy.out cc jI.out x ml));have cJ:Hid (psP PP ⟨xf,xt⟩ sets (j+1)=psP PP ⟨xf,xt⟩ sets j ++ [(⟨xf,xt⟩,x)]):=jq (Xo ac);have Jg:=jq (And.intro hs LZ);have Jp:Hid ((⟨⟨ss.data.toList,x.set.type,x.set.life,x.set.data⟩,x.sigs⟩:Np.Signed)=x):=jq (by rw[hs]);have AT:Hid (x.set.data.length<=1000/\x.sigs.length<=1000):=jq (by have h1:=Ea.out.few;have h2:=Ea.out.fewS;omega);have kV:Hid (∀ W',Below X wr W'->SlR bW 3 W' W'.heap.size dv x.set.data):=jq (λW' hb=>(aR.keep cu hb).more cS (by have:=hb.size;omega));have D5:Hid (∀ W',Below X wr W'->SlR cV 6 W' W'.heap.size sv x.sigs):=jq (λW' hb=>(aN.keep cT hb).more dU (by have:=hb.size;omega));obtain⟨dA,dc,rfl,_,_⟩:=aj aR;obtain⟨gA,gc,rfl,_,_⟩:=aj aN;obtain⟨dn,pW⟩:=abK x.set.data.length;obtain⟨gn,ip⟩:=abK x.sigs.length;rw[pW] at e3 kV;rw[ip] at e4 D5;have Pt:=jq pW;have wR:=jq ip;clear ac hs LZ aR aN pW ip ml;have bL:(0:Int)<=(j:Int):=by omega
      have bY:(j:Int)<(xn:Int):=by omega
      obtain⟨w8,mj⟩:=abK (wr.alloc (.cells #[.string ss,.int .i64 x.set.type,.int .i64 x.set.life,.slice dA dn dc,.slice gA gn gc] 42));have vI:w8.heap.size=wr.heap.size+1:=by rw[<-mj];simp
      have fP:Below wr.heap.size wr w8:=by rw[<-mj];exact (vQ _ _).alloc (bQ _) _
      have p0:w8.cell? ⟨wr.heap.size,0,none⟩=some (.string ss):=by rw[<-mj];simp[go_sem]
      have p1:w8.cell? ⟨wr.heap.size,1,none⟩=some (.int .i64 x.set.type):=by rw[<-mj];simp[go_sem]
      have p2:w8.cell? ⟨wr.heap.size,2,none⟩=some (.int .i64 x.set.life):=by rw[<-mj];simp[go_sem]
      have p3:w8.cell? ⟨wr.heap.size,3,none⟩=some (.slice dA dn dc):=by rw[<-mj];simp[go_sem]
      have p4:w8.cell? ⟨wr.heap.size,4,none⟩=some (.slice gA gn gc):=by rw[<-mj];simp[go_sem]
      have jF:=jq fP;clear fP;gi_wp2_with fail;refine⟨trivial,rfl,?_⟩;refine (CallsIn.inRound l (callsIn_wide.2 (Zi ss x.set.type x.set.life _ _ x.set.data x.sigs w8 (mB.out.keepAt (cw.out.trans (jF.out.acQ)) pt.out) (by rw[Jp.out];exact Ea.out) (kV.out w8 (jF.out.acQ)) (D5.out w8 (jF.out.acQ))))).mono ?_;rw[Jp.out];rintro e w9 ⟨rfl,dj⟩;clear mj e0 e1 e2 e3 e4;have GJ:=dj.size;have gH:Hid (Below wr.heap.size wr w9):=abJ jF dj;replace p0:=abZ dj p0;replace p1:=abZ dj p1;replace p2:=abZ dj p2;replace p3:=abZ dj p3;replace p4:=abZ dj p4;have AI:=jq (aeQ uk.out gH.out);have In:=jq (aeQ Io.out gH.out);have DG:Hid (di (Bh+1+1) (Np.mp (us.map (·.1))) w9):=jq (Ii.out.keep gH.out (by omega));have pw:=jq (fK.out.keep gH.out);have Cb:=(gH.out.block _ (by omega)).trans ((AY.out _ (by omega) AQ.out).trans my.out);have K8:w9.heap[X+1]?=w6.heap[X+1]?:=(gH.out.block _ (by omega)).trans ((AY.out _ (by omega) (λe=>by have:=el.out _ e;omega)).trans Js.out.1);have K6:w9.heap[Bh+1+1+1]?=w6.heap[Bh+1+1+1]?:=(gH.out.block _ (by omega)).trans ((AY.out _ (by omega) (λe=>by have:=el.out _ e;omega)).trans Js.out.2);have bx:w9.cell? ⟨Bh+1+1+1,0,none⟩=some (.map (some (Bh+1+1))):=(iQ K6).trans Ph.out.cell;have kz:w9.cell? ⟨X+1,0,none⟩=some (.string z):=(iQ K8).trans xb.out;have js:=YB (P:=prog) w9 213 9 3 underlying213 underlying9 (Bh+1+1) _ DG.out (Np.iz x) (.int .i64 0) (by kernel_rfl);have Jk:Hid (∀ y∈us.map (·.1),Np.Plain47 y):=jq (λy hy=>by
       rw[CQ kh.out] at hy;obtain⟨p,hp,rfl⟩:=List.mem_map.1 (Np.zR.1 hy);exact Qg.out j p hp)
      have xB:Hid ((us.map (·.1)).Nodup):=jq (by rw[CQ kh.out];exact Np.vN _);have Jj:Hid (us.length<=5000):=jq (by have h1:=MI kh.out;have h2:=I4.out j;omega);clear dj K8 K6;obtain⟨key,vm⟩:=abK (Np.iz x);rw[vm] at js |-;by_cases hin:x∈us.map (·.1)
      ·obtain⟨q,hq⟩:=List.mem_iff_getElem?.1 hin;have gC:(Np.mp (us.map (·.1))).lookup key=some (.int .i64 ((q:Nat):Int)):=by rw[<-vm];exact Np.V0 I7.out Jk.out xB.out hq
       rw[gC] at js;simp only[Option.getD_some,Option.isSome_some] at js;rw[CQ kh.out] at hq;obtain⟨fv,hy⟩:=WA kh.out hq;obtain⟨tl,rL⟩:=abK (Np.eG (psP PP ⟨xf,xt⟩ sets j) x);have jJ:Hid (∀ v',(us.set q (x,tl ++ [⟨xf,xt⟩],v')).map (λx=>(x.1,x.2.1))=Np.dR (psP PP ⟨xf,xt⟩ sets (j+1))):=jq (λv'=>by rw[cJ.out,<-rL];exact WC kh.out hq _ v');have EH:Hid (tl.length<=5000):=jq (by rw[<-rL];have h1:=Dk (psP PP ⟨xf,xt⟩ sets j) x;have h2:=I4.out j;omega);rw[rL] at hy;clear hin gC hq rL vm;obtain⟨n,hn⟩:=abK us.length;have aqK:q<n:=by rw[<-hn];exact (cQ.1 hy).1
       obtain⟨g,cap,rfl,dw,F0,tv⟩:=pw.out.rows.row.formSome hn (by omega);have fF:=jq hn;have LF:n<=5000:=by rw[<-hn];exact Jj.out
       have rB:aG w6.heap.size w9 fv tl:=pw.out.rows.fresh _ (gQ hy);obtain⟨fA,fc,rfl⟩:=aG.form rB;obtain⟨fn,gT⟩:=abK tl.length;rw[gT] at hy rB;have sC:=jq gT;have HY:=jq hy;have lc:Hid (∀ k,(Value.slice fA fn fc).ownBlock=some k->w6.heap.size<=k/\k≠g/\k≠W.heap.size):=jq (λk e=>by
        have h1:=World.ownsRow.lt rB k e;have h2:=(pw.out.rows.off _ (gQ hy) k e).1;have h3:=pw.out.own k (.inr ⟨_,gQ hy,e⟩);exact⟨h1.1,λe=>h2 (by rw[e];rfl),λe2=>by
         subst e2;rcases h3 with h3 | h3
         ·exact AQ.out h3
         ·omega⟩)
       have b6:=AI.out.cell;have f6:w9.cell? ⟨g,q * 8+6,none⟩=some (.slice fA fn fc):=FY pw.out.rows.row hy;have c1:w9.cell? ⟨W.heap.size,1,none⟩=some (.int .i64 xf):=by simp[World.cell?,Cb]
       have c2:w9.cell? ⟨W.heap.size,2,none⟩=some (.int .i64 xt):=by simp[World.cell?,Cb]
       have nU:(0:Int)<=(q:Int):=by omega
       have jr:(q:Int)<(n:Int):=by omega
       have vg:decide ((20000:Int)<(n:Int))=false:=acJ;have TY:decide (20000<n)=false:=acJ;have sE:=pw;have AH:=AI;have DI:=In;have AG:=DG;have sJ:=dK;have TX:W.heap.size<w9.heap.size:=by omega
       clear hn hy rB gT Cb tv;gi_wp2_with fail;refine Dq λa0 dF=>?_;have ph:=jq dF;have fB:=jq (show a0.eval (.tmp 6) = .pointer (some ⟨Bh,0,none⟩) by rw[dF];rfl);have sf:=jq (show a0.eval (.tmp 13) = .int .i64 (q:Nat) by rw[dF];rfl);have sj:=jq (show a0.eval (.tmp 9) = .pointer (some ⟨W.heap.size,0,none⟩) by rw[dF];rfl);have HM:=jq (show a0.tmps.size=101 by rw[dF];rfl);clear dF;refine Hz (by kernel_rfl) (by kernel_rfl) (by rintro⟨_,_,h⟩;exact h) ?_;refine jC 12 (D:=[0,1,2,3,4,5,6,7,8,9,10,11,14,15]) (val:=fj g n cap q fA fn fc W.heap.size xf xt undef undef) nf oX (yJ HM.out) (by kernel_rfl) ?_ ?_
       ·intro i bl de o ho a' hb bw;have k6':=adK hb fB.out;have k13':=adK hb sf.out;have k9':=adK hb sj.out;simp[Act.eval] at k6' k13' k9'
        repeat' (rcases bl with _ | ⟨_,bl⟩)
        all_goals first
         | (exfalso;simp at de;done)
         | (cases ho
            try simp[Act.eval,Region.binds,fj,iB] at bw
            refine iX (by simp[Region.wanted]) ?_;simp[Oper.quietAt,Oper.quietUpon,execOp,go_sem,fj,k6',k13',k9',b6,f6,c1,c2,nU,jr,bw])
       ·intro f listed a' hH hr hv;have av11:=hv 11;simp[Act.eval,fj,iB] at av11;simp only[wpOp];simp[Region.wanted];refine .inl ?_;simp[Oper.wp,execOp,go_sem,av11];obtain⟨wA,nW⟩:=abX ((w9.alloc (.cells #[.int .i64 xf,.int .i64 xt] 110)).drew);rw[<-nW];have kq:Below w9.heap.size w9 wA:=by rw[nW];exact ((vQ _ _).alloc (bQ _) _).drew
        have Vs:wA.heap.size=w9.heap.size+1:=by rw[nW];simp[World.drew]
        have wL:Hid (wA.cell? ⟨w9.heap.size,0,none⟩=some (.int .i64 xf)/\wA.cell? ⟨w9.heap.size,1,none⟩=some (.int .i64 xt)):=jq (by rw[nW];exact⟨by simp[go_sem],by simp[go_sem]⟩);replace b6:=abZ kq b6;replace f6:=abZ kq f6;replace c1:=abZ kq c1;replace c2:=abZ kq c2;have sF:=jq (sE.out.keep kq);have eS:=jq kq;clear nW kq;refine jC 13 (D:=[0,1,2,3,4,5,6,7,8,9,10,11,14,15,12]) (val:=fj g n cap q fA fn fc W.heap.size xf xt (.slice (some ⟨w9.heap.size,0,none⟩) 1 1) undef) nf oX (hH.next nf oX hr) (by kernel_rfl) ?_ ?_
        ·intro i bl de o ho a' hb bw;have k6':=adK hb fB.out;have k13':=adK hb sf.out;have k9':=adK hb sj.out;simp[Act.eval] at k6' k13' k9'
         repeat' (rcases bl with _ | ⟨_,bl⟩)
         all_goals first
          | (exfalso;simp at de;done)
          | (cases ho
             try simp[Act.eval,Region.binds,fj,iB] at bw
             refine iX (by simp[Region.wanted]) ?_;simp[Oper.quietAt,Oper.quietUpon,execOp,go_sem,fj,k6',k13',k9',b6,f6,c1,c2,nU,jr,bw])
        ·intro f listed a' hH hr hv;have av6:=hv 6;have av12:=hv 12;simp[fj,iB] at av6 av12;simp only[wpOp];simp[Region.wanted];refine .inl ?_;refine OG wA (.tmp 68) (.tmp 74) rfl w6.heap.size (.slice fA fn fc) tl av6 (sF.out.rows.fresh _ (gQ HY.out)) w9.heap.size xf xt av12 wL.out.1 wL.out.2 (by have:=EH.out;omega) (by omega) ?_;intro v8 wB gi dl ls;obtain⟨eA,ec,rfl⟩:=MZ gi (n:=(fn+1)) (by rw[List.length_append,sC.out];rfl);have Vt:=dl.size;have ffA:wA.frozen? ⟨g,q * 8+6,none⟩=false:=sF.out.rows.row.frozenAt fF.out _;have qc:wB.heap[Bh]?=wA.heap[Bh]?:=dl.block Bh (by omega) (λe=>by have:=(lc.out Bh e.symm).1;omega);have tC:wB.heap[g]?=wA.heap[g]?:=dl.block g (by omega) (λe=>(lc.out g e.symm).2.1 rfl);have tB:wB.heap[W.heap.size]?=wA.heap[W.heap.size]?:=dl.block W.heap.size (by omega) (λe=>(lc.out _ e.symm).2.2 rfl);replace b6:=(iQ (a:=⟨Bh,0,none⟩) qc).trans b6;replace f6:=(iQ (a:=⟨g,q * 8+6,none⟩) tC).trans f6;replace c1:=(iQ (a:=⟨W.heap.size,1,none⟩) tB).trans c1;replace c2:=(iQ (a:=⟨W.heap.size,2,none⟩) tB).trans c2;have ff:=(World.frozen?_of_block (a:=⟨g,q * 8+6,none⟩) tC).trans ffA;have H8:=jq (And.intro gi (And.intro dl ls));clear gi dl ls qc tC tB ffA;refine jC 16 (D:=[0,1,2,3,4,5,6,7,8,9,10,11,14,15,12,13]) (val:=fj g n cap q fA fn fc W.heap.size xf xt (.slice (some ⟨w9.heap.size,0,none⟩) 1 1) (.slice eA (fn+1) ec)) nf oX (hH.next nf oX hr) (by kernel_rfl) ?_ ?_
         ·intro i bl de o ho a' hb bw;have k6':=adK hb fB.out;have k13':=adK hb sf.out;have k9':=adK hb sj.out;simp[Act.eval] at k6' k13' k9'
          repeat' (rcases bl with _ | ⟨_,bl⟩)
          all_goals first
           | (exfalso;simp at de;done)
           | (cases ho
              try simp[Act.eval,Region.binds,fj,iB] at bw
              refine iX (by simp[Region.wanted]) ?_;simp[Oper.quietAt,Oper.quietUpon,execOp,go_sem,fj,k6',k13',k9',b6,f6,c1,c2,nU,jr,bw])
         ·intro f listed a' hH hr hv;have av13:=hv 13;have av15:=hv 15;simp[Act.eval,fj,iB] at av13 av15;simp only[wpOp];simp[Region.wanted];refine .inl ?_;simp[Oper.wp,execOp,go_sem,av13,av15,f6,ff];refine Dp hH hr HM.out nf (by kernel_rfl) λma=>?_
          ·rw[ma,ph.out];simp[ni,Act.put,fj,iB];clear hv hH ma;clear b6 f6 c1 c2 ff;obtain⟨W',hW'⟩:=abK (wB.setCell ⟨g,q * 8+6,none⟩ (.slice eA (fn+1) ec));have D3:Hid (PubK S W₂ w6.heap.size z (λk=>M k\/(Value.slice eA (fn+1) ec).ownBlock=some k) (us.set q (x,tl ++ [⟨xf,xt⟩],.slice eA (fn+1) ec)) (.slice (some ⟨g,0,none⟩) n cap) W'):=jq (by rw[<-hW'];exact sF.out.changed fF.out HY.out H8.out.2.1 H8.out.1 H8.out.2.2);have jG:Hid (Below w6.heap.size w9 W'):=jq (by rw[<-hW'];exact ((eS.out.acQ).trans ((vQ _ _).grown H8.out.2.1 (by omega) (λk e=>(lc.out k e).1))).setCell (by dsimp only;omega) _);have EF:Hid ((us.set q (x,tl ++ [(⟨xf,xt⟩:Np.Span)],Value.slice eA (fn+1) ec)).map (·.1)=us.map (·.1)):=jq (NO HY.out rfl);rw[hW'];have Mh:W'.heap.size=wB.heap.size:=by rw[<-hW'];simp[World.setCell]
           gi_wp2_with fail;go_roundw
           case measure=>simp[intOf] <;> omega
           case rel=>exact⟨j+1,_,_,_,by omega,by go_num,by omega,jq (aeQ AH.out jG.out),jq (aeQ DI.out jG.out),jq (by rw[EF.out];exact AG.out.keep jG.out (by omega)),D3,jq ⟨.inl sJ.out.1,.inl sJ.out.2.1,.inl sJ.out.2.2⟩,jq (jJ.out _)⟩
      ·have gC:(Np.mp (us.map (·.1))).lookup key=none:=by rw[<-vm];exact Np.VY I7.out Jk.out hin
       rw[gC] at js;simp only[Option.getD_none,Option.isSome_none] at js;have LH:x∉Np.cU ((psP PP ⟨xf,xt⟩ sets j).map (·.2)):=by rw[<-CQ kh.out];exact hin
       obtain⟨m,hm⟩:=abK us.length;have xd:=jq hm;have Bb:Hid (m<=5000):=jq (by rw[<-hm];exact Jj.out);obtain⟨wU,Uy,LC,mh⟩:=YD (P:=prog) w9 213 9 3 underlying213 underlying9 (Bh+1+1) _ DG.out key (.int .i64 ((m:Nat):Int)) gC;obtain⟨oA,oc,rfl⟩:=pw.out.rows.row.formN hm;have b6:=AI.out.cell;have jJ:Hid (∀ v',((us ++ [((x,[],.slice none 0 0):PT)]).set m (x,[] ++ [⟨xf,xt⟩],v')).map (λx=>(x.1,x.2.1))=Np.dR (psP PP ⟨xf,xt⟩ sets (j+1))):=jq (λv'=>by rw[cJ.out,<-hm];exact WB kh.out LH _ _ v');have hzU:wU.heap.size=w9.heap.size:=mh.size;have IL:=jq (pw.out.touch dK.out.2.1 (.inl sP.out.2.2) (λe=>by have:=(pw.out.rows.lt e).1;omega) mh);have wG:Hid (Below X wr wU):=jq ((gH.out.acQ).trans (mh.below (by omega)));have Ik:Hid (Boxed wU Bh 52 (.slice oA m oc)):=jq ((mh.block Bh (by omega)).trans AI.out);have Pe:Hid (Boxed wU (Bh+1) 4 (.bool true)):=jq ((mh.block (Bh+1) (by omega)).trans In.out);have O9:Hid (di (Bh+1+1) (Np.mp ((us ++ [((x,[],.slice none 0 0):PT)]).map (·.1))) wU):=jq (by
        rw[List.map_append,List.map_cons,List.map_nil,Np.VZ,vm,List.length_map,hm];exact LC)
       have Pq:Hid (wU.heap[W.heap.size]?=W₂.heap[W.heap.size]?):=jq ((mh.block _ (by omega)).trans ((gH.out.block _ (by omega)).trans (AY.out _ (by omega) AQ.out)));clear hin gC LH hm vm LC Cb;gi_wp2_with fail;replace b6:=Ik.out.cell;replace kz:=(iQ (a:=⟨X+1,0,none⟩) (mh.block (X+1) (by omega))).trans kz;replace p0:=(iQ (a:=⟨wr.heap.size,0,none⟩) (mh.block wr.heap.size (by omega))).trans p0;replace p1:=(iQ (a:=⟨wr.heap.size,1,none⟩) (mh.block wr.heap.size (by omega))).trans p1;replace p2:=(iQ (a:=⟨wr.heap.size,2,none⟩) (mh.block wr.heap.size (by omega))).trans p2;replace p3:=(iQ (a:=⟨wr.heap.size,3,none⟩) (mh.block wr.heap.size (by omega))).trans p3;replace p4:=(iQ (a:=⟨wr.heap.size,4,none⟩) (mh.block wr.heap.size (by omega))).trans p4;clear Uy js bx mh;refine Dq λa0 dF=>?_;have ph:=jq dF;have fB:=jq (show a0.eval (.tmp 6) = .pointer (some ⟨Bh,0,none⟩) by rw[dF];rfl);have qF:=jq (show a0.eval (.tmp 3) = .pointer (some ⟨X+1,0,none⟩) by rw[dF];rfl);have od:=jq (show a0.eval (.tmp 11) = .pointer (some ⟨wr.heap.size,0,none⟩) by rw[dF];rfl);have HM:=jq (show a0.tmps.size=101 by rw[dF];rfl);clear dF;refine Hz (by kernel_rfl) (by kernel_rfl) (by rintro⟨_,_,h⟩;exact h) ?_;refine jC 3 (D:=[0,1,2]) (val:=jy oA m oc z ss x.set.type x.set.life dA dn dc gA gn gc undef undef undef) rT tX (yJ HM.out) (by kernel_rfl) ?_ ?_
       ·intro i bl de o ho a' hb bw;have k6':=adK hb fB.out;have k3':=adK hb qF.out;have k11':=adK hb od.out;simp[Act.eval] at k6' k3' k11'
        repeat' (rcases bl with _ | ⟨_,bl⟩)
        all_goals first
         | (exfalso;simp at de;done)
         | (cases ho
            try simp[Act.eval,Region.binds,jy,lJ] at bw
            refine iX (by simp[Region.wanted]) ?_;simp[Oper.quietAt,Oper.quietUpon,execOp,go_sem,jy,k6',k3',k11',b6,kz,p0,p1,p2,p3,p4,vP,bw])
       ·intro f listed a' hH hr hv;have av2:=hv 2;simp[Act.eval,jy,lJ] at av2;simp only[wpOp];simp[Region.wanted];refine .inl ?_;simp[Oper.wp,go_sem,av2];refine (RC ss x.set.type x.set.life _ x.set.data _ x.sigs (by have:=AT.out.1;omega) (by have:=AT.out.2;omega) wU.drew (kV.out wU.drew wG.out.drew) (D5.out wU.drew wG.out.drew)).mono ?_;rintro e wC ⟨dv2,gv2,rfl,im,yv⟩;have dM:Below wU.heap.size wU wC:=(vQ wU.heap.size wU).drew.trans yv;have Mg:=dM.size;replace p0:=abZ dM p0;replace p1:=abZ dM p1;replace p2:=abZ dM p2;replace p3:=abZ dM p3;replace p4:=abZ dM p4;replace b6:=abZ dM b6;replace kz:=abZ dM kz;have kT:Hid (AB wU.heap.size wC dv2 gv2 x.set.data x.sigs):=jq im;obtain⟨dA2,dc2,rfl,_,_⟩:=aj ((im (λ_=>False) (λ_ e=>e.elim)).1);obtain⟨gA2,gc2,rfl,_,_⟩:=aj ((im (λ_=>False) (λ_ e=>e.elim)).2);rw[Pt.out,wR.out] at kT |-;have IJ:=jq (IL.out.keep dM);have DF:=jq dM;clear im dM yv;dsimp only;refine jC 5 (D:=[0,1,2,4,3]) (val:=jy oA m oc z ss x.set.type x.set.life dA dn dc gA gn gc (.agg #[.string ss,.int .i64 x.set.type,.int .i64 x.set.life,.slice dA2 dn dc2,.slice gA2 gn gc2]) undef undef) rT tX (hH.next rT tX hr) (by kernel_rfl) ?_ ?_
        ·intro i bl de o ho a' hb bw;have k6':=adK hb fB.out;have k3':=adK hb qF.out;have k11':=adK hb od.out;simp[Act.eval] at k6' k3' k11'
         repeat' (rcases bl with _ | ⟨_,bl⟩)
         all_goals first
          | (exfalso;simp at de;done)
          | (cases ho
             try simp[Act.eval,Region.binds,jy,lJ] at bw
             refine iX (by simp[Region.wanted]) ?_;simp[Oper.quietAt,Oper.quietUpon,execOp,go_sem,jy,k6',k3',k11',b6,kz,p0,p1,p2,p3,p4,vP,bw])
        ·intro f listed a' hH hr hv;have av4:=hv 4;simp[Act.eval,jy,lJ] at av4;simp only[wpOp];simp[Region.wanted];refine .inl ?_;simp[vP] at av4;simp[Oper.wp,execOp,go_sem,av4];obtain⟨wX,oN⟩:=abX (wC.alloc (.cells #[.string z,.string ss,.int .i64 x.set.type,.int .i64 x.set.life,.slice dA2 dn dc2,.slice gA2 gn gc2,.slice none 0 0,.slice none 0 0] 57));rw[<-oN];have dW:Below wC.heap.size wC wX:=by rw[oN];exact (vQ _ _).alloc (bQ _) _
         have yA:fZ wX wC.heap.size 0 [.string z,.string ss,.int .i64 x.set.type,.int .i64 x.set.life,.slice dA2 dn dc2,.slice gA2 gn gc2,.slice none 0 0,.slice none 0 0]:=λi v hi=>by
          rw[oN]
          match i,hi with
          | 0,hi=>cases hi;simp[go_sem]
          | 1,hi=>cases hi;simp[go_sem]
          | 2,hi=>cases hi;simp[go_sem]
          | 3,hi=>cases hi;simp[go_sem]
          | 4,hi=>cases hi;simp[go_sem]
          | 5,hi=>cases hi;simp[go_sem]
          | 6,hi=>cases hi;simp[go_sem]
          | 7,hi=>cases hi;simp[go_sem]
          | i+8,hi=>simp at hi
         have Vv:=dW.size;replace p0:=abZ dW p0;replace p1:=abZ dW p1;replace p2:=abZ dW p2;replace p3:=abZ dW p3;replace p4:=abZ dW p4;replace b6:=abZ dW b6;replace kz:=abZ dW kz;have sA:=jq yA;have xa:=jq (IJ.out.keep dW);have DJ:=jq dW;have ki:Hid (oy z (be wX M) wX.heap.size [.string z,.string ss,.int .i64 x.set.type,.int .i64 x.set.life,.slice dA2 dn dc2,.slice gA2 gn gc2,.slice none 0 0,.slice none 0 0] (x,[],.slice none 0 0)):=jq (by
          have h1:=kT.out M (λk hk=>IL.out.lt k hk);have h2:=(Leaves'.of_below (M:=M) dW).slr cu zY cS h1.1;have h3:=(Leaves'.of_below (M:=M) dW).slr cT Ae dU h1.2;exact⟨ss,_,_,none,0,0,rfl,rfl,Jg.out.1,Jg.out.2,h2,h3⟩)
         clear oN dW yA;refine jC 6 (D:=[0,1,2,4,3,5]) (val:=jy oA m oc z ss x.set.type x.set.life dA dn dc gA gn gc (.agg #[.string ss,.int .i64 x.set.type,.int .i64 x.set.life,.slice dA2 dn dc2,.slice gA2 gn gc2]) (.slice (some ⟨wC.heap.size,0,none⟩) 1 1) undef) rT tX (hH.next rT tX hr) (by kernel_rfl) ?_ ?_
         ·intro i bl de o ho a' hb bw;have k6':=adK hb fB.out;have k3':=adK hb qF.out;have k11':=adK hb od.out;simp[Act.eval] at k6' k3' k11'
          repeat' (rcases bl with _ | ⟨_,bl⟩)
          all_goals first
           | (exfalso;simp at de;done)
           | (cases ho
              try simp[Act.eval,Region.binds,jy,lJ] at bw
              refine iX (by simp[Region.wanted]) ?_;simp[Oper.quietAt,Oper.quietUpon,execOp,go_sem,jy,k6',k3',k11',b6,kz,p0,p1,p2,p3,p4,vP,bw])
         ·intro f listed a' hH hr hv;have av0:=hv 0;have av5:=hv 5;simp[jy,lJ] at av0 av5;simp only[wpOp];simp[Region.wanted];refine .inl ?_;refine H7 (R:=oy z) (M:=M) wX (.tmp 52) (.tmp 57) 52 rfl w6.heap.size u7 ih (.agg #[.string ⟨#[]⟩,.string ⟨#[]⟩,.int .i64 0,.int .i64 0,.slice none 0 0,.slice none 0 0,.slice none 0 0,.slice none 0 0]) 144 underlying52 Ud T7 T8 T9 rfl (by decide) (.slice oA m oc) us av0 xa.out.rows.row (some ⟨wC.heap.size,0,none⟩) 1 [(x,[],.slice none 0 0)] av5 (NC rfl ki.out sA.out) (Yt z) (by rw[xd.out];have:=Bb.out;simp[maxLen];omega) (by rw[xd.out];have:=Bb.out;simp;omega) (by omega) (C8 z) (Da z) (C9 z) ?_;intro v8 wY gi dl ls;obtain⟨A8,c8,rfl⟩:=gi.formN (n:=m+1) (by rw[List.length_append,xd.out];rfl);have Vw:=dl.size;have rA:∀ k,(Value.slice oA m oc).ownBlock=some k->w6.heap.size<=k/\k<wr.heap.size:=λk e=>by have h1:=fK.out.rows.row.lt k e;exact h1
          have j5:wY.heap[wr.heap.size]?=wX.heap[wr.heap.size]?:=dl.block _ (by omega) (λe=>by have:=(rA _ e.symm).2;omega);have qc:wY.heap[Bh]?=wX.heap[Bh]?:=dl.block _ (by omega) (λe=>by have:=(rA _ e.symm).1;omega);have Lq:wY.heap[X+1]?=wX.heap[X+1]?:=dl.block _ (by omega) (λe=>by have:=(rA _ e.symm).1;omega);replace p0:=(iQ (a:=⟨wr.heap.size,0,none⟩) j5).trans p0;replace p1:=(iQ (a:=⟨wr.heap.size,1,none⟩) j5).trans p1;replace p2:=(iQ (a:=⟨wr.heap.size,2,none⟩) j5).trans p2;replace p3:=(iQ (a:=⟨wr.heap.size,3,none⟩) j5).trans p3;replace p4:=(iQ (a:=⟨wr.heap.size,4,none⟩) j5).trans p4;replace b6:=(iQ (a:=⟨Bh,0,none⟩) qc).trans b6;replace kz:=(iQ (a:=⟨X+1,0,none⟩) Lq).trans kz;have Il:Hid (Boxed wY Bh 52 (.slice oA m oc)):=jq (qc.trans ((DJ.out.block Bh (by omega)).trans ((DF.out.block Bh (by omega)).trans Ik.out)));have Pr:Hid (wY.heap[W.heap.size]?=wU.heap[W.heap.size]?):=jq ((dl.block _ (by omega) (λe=>by
           rcases xa.out.own _ (.inl e.symm) with h1 | h1
           ·exact AQ.out h1
           ·omega)).trans ((DJ.out.block _ (by omega)).trans (DF.out.block _ (by omega))))
          have Pk:Hid (Below w6.heap.size wX wY):=jq ((vQ _ _).grown dl (by omega) (λk e=>(rA k e).1));have nA:=jq (xa.out.push gi dl ls);clear gi dl ls j5 qc Lq;refine jC 7 (D:=[0,1,2,4,3,5,6]) (val:=jy oA m oc z ss x.set.type x.set.life dA dn dc gA gn gc (.agg #[.string ss,.int .i64 x.set.type,.int .i64 x.set.life,.slice dA2 dn dc2,.slice gA2 gn gc2]) (.slice (some ⟨wC.heap.size,0,none⟩) 1 1) (.slice A8 (m+1) c8)) rT tX (hH.next rT tX hr) (by kernel_rfl) ?_ ?_
          ·intro i bl de o ho a' hb bw;have k6':=adK hb fB.out;have k3':=adK hb qF.out;have k11':=adK hb od.out;simp[Act.eval] at k6' k3' k11'
           repeat' (rcases bl with _ | ⟨_,bl⟩)
           all_goals first
            | (exfalso;simp at de;done)
            | (cases ho
               try simp[Act.eval,Region.binds,jy,lJ] at bw
               refine iX (by simp[Region.wanted]) ?_;simp[Oper.quietAt,Oper.quietUpon,execOp,go_sem,jy,k6',k3',k11',b6,kz,p0,p1,p2,p3,p4,vP,bw])
          ·intro f listed a' hH hr hv;have av6:=hv 6;simp[Act.eval,jy,lJ] at av6;simp only[wpOp];simp[Region.wanted];refine .inl ?_;have bf:=Il.out.frozen;have k6':=(bC hH.good.base (j:=6) (by decide) (by decide)).trans fB.out;simp[Act.eval] at k6';simp[Oper.wp,execOp,go_sem,av6,b6,bf,k6'];refine Dp hH hr HM.out rT (by kernel_rfl) λma=>?_
           ·rw[ma,ph.out];simp[ni,Act.put,jy,lJ];clear hv hH ma;clear p0 p1 p2 p3 p4 b6 kz bf;obtain⟨wZ,CF⟩:=abK (wY.setCell ⟨Bh,0,none⟩ (.slice A8 (m+1) c8));have tZ:Turned Bh wY wZ:=by rw[<-CF];exact⟨rfl,rfl,rfl,by simp[World.setCell],λi hi=>wQ _ _ _ _ hi⟩
            have hzZ:wZ.heap.size=wY.heap.size:=tZ.size;have AH:Hid (Boxed wZ Bh 52 (.slice A8 (m+1) c8)):=jq (by rw[<-CF];exact Il.out.set _);have Fn:Below w6.heap.size wU wY:=((DF.out.acQ).trans (DJ.out.acQ)).trans Pk.out;have DI:Hid (Boxed wZ (Bh+1) 4 (.bool true)):=jq ((tZ.block (Bh+1) (by omega)).trans (aeQ Pe.out Fn));have AG:Hid (di (Bh+1+1) (Np.mp ((us ++ [((x,[],.slice none 0 0):PT)]).map (·.1))) wZ):=jq ((O9.out.keep Fn (by omega)).stays (tZ.block _ (by omega)));obtain⟨u1,rM⟩:=abK (us ++ [((x,[],.slice none 0 0):PT)]);obtain⟨M1,Fu⟩:∃ M1:Nat->Prop,(λk=>M k\/(Value.slice A8 (m+1) c8).ownBlock=some k)=M1:=⟨_,rfl⟩;have sE:Hid (PubK S W₂ w6.heap.size z M1 u1 (.slice A8 (m+1) c8) wZ):=jq (by rw[<-rM,<-Fu];exact nA.out.touch (.inl dK.out.1) (.inl sP.out.1) (λe=>by have:=(nA.out.rows.lt e).1;omega) tZ);have sJ:Hid (M1 Bh/\M1 (Bh+1+1)/\M1 (Bh+1)):=jq (by rw[<-Fu];exact⟨.inl dK.out.1,.inl dK.out.2.1,.inl dK.out.2.2⟩);rw[rM] at AG jJ;have HY:Hid (u1[m]?=some (x,[],.slice none 0 0)):=jq (by rw[<-rM,<-xd.out];simp);have fF:Hid (u1.length=m+1):=jq (by rw[<-rM,<-xd.out];simp);have sC:Hid (([]:List Np.Span).length=0):=jq rfl;have EH:Hid (([]:List Np.Span).length<=5000):=jq (by simp);obtain⟨g,cap,Lh,dw,F0,tv⟩:=sE.out.rows.row.formSome fF.out (by omega);simp only[Value.slice.injEq] at Lh;obtain⟨rfl,-,rfl⟩:=Lh;have lc:Hid (∀ k,(Value.slice none 0 0).ownBlock=some k->w6.heap.size<=k/\k≠g/\k≠W.heap.size):=jq (λk e=>by cases e);have FQ:=((tZ.block _ (by omega)).trans (Pr.out.trans Pq.out)).trans my.out;have b6:=AH.out.cell;have f6:wZ.cell? ⟨g,m * 8+6,none⟩=some (.slice none 0 0):=FY sE.out.rows.row HY.out;have c1:wZ.cell? ⟨W.heap.size,1,none⟩=some (.int .i64 xf):=by simp[World.cell?,FQ]
            have c2:wZ.cell? ⟨W.heap.size,2,none⟩=some (.int .i64 xt):=by simp[World.cell?,FQ]
            have nU:(0:Int)<=(m:Int):=by omega
            have jr:(m:Int)<(m:Int)+1:=by omega
            have vg:decide ((20000:Int)<(m:Int)+1)=false:=tQ (by have:=Bb.out;omega);have TY:decide (20000<m+1)=false:=tQ (by have:=Bb.out;omega);rw[CF];have TX:W.heap.size<wZ.heap.size:=by omega
            clear FQ tv Fn tZ CF rM Fu;gi_wp2_with fail;refine Dq λa0 dF=>?_;have ph:=jq dF;have fB:=jq (show a0.eval (.tmp 6) = .pointer (some ⟨Bh,0,none⟩) by rw[dF];rfl);have sf:=jq (show a0.eval (.tmp 13) = .int .i64 (m:Nat) by rw[dF];rfl);have sj:=jq (show a0.eval (.tmp 9) = .pointer (some ⟨W.heap.size,0,none⟩) by rw[dF];rfl);have HM:=jq (show a0.tmps.size=101 by rw[dF];rfl);clear dF;refine Hz (by kernel_rfl) (by kernel_rfl) (by rintro⟨_,_,h⟩;exact h) ?_;refine jC 12 (D:=[0,1,2,3,4,5,6,7,8,9,10,11,14,15]) (val:=fj g (m+1) c8 m none 0 0 W.heap.size xf xt undef undef) nf oX (yJ HM.out) (by kernel_rfl) ?_ ?_
            ·intro i bl de o ho a' hb bw;have k6':=adK hb fB.out;have k13':=adK hb sf.out;have k9':=adK hb sj.out;simp[Act.eval] at k6' k13' k9'
             repeat' (rcases bl with _ | ⟨_,bl⟩)
             all_goals first
              | (exfalso;simp at de;done)
              | (cases ho
                 try simp[Act.eval,Region.binds,fj,iB] at bw
                 refine iX (by simp[Region.wanted]) ?_;simp[Oper.quietAt,Oper.quietUpon,execOp,go_sem,fj,k6',k13',k9',b6,f6,c1,c2,nU,jr,bw])
            ·intro f listed a' hH hr hv;have av11:=hv 11;simp[Act.eval,fj,iB] at av11;simp only[wpOp];simp[Region.wanted];refine .inl ?_;simp[Oper.wp,execOp,go_sem,av11];obtain⟨wA,nW⟩:=abX ((wZ.alloc (.cells #[.int .i64 xf,.int .i64 xt] 110)).drew);rw[<-nW];have kq:Below wZ.heap.size wZ wA:=by rw[nW];exact ((vQ _ _).alloc (bQ _) _).drew
             have Vs:wA.heap.size=wZ.heap.size+1:=by rw[nW];simp[World.drew]
             have wL:Hid (wA.cell? ⟨wZ.heap.size,0,none⟩=some (.int .i64 xf)/\wA.cell? ⟨wZ.heap.size,1,none⟩=some (.int .i64 xt)):=jq (by rw[nW];exact⟨by simp[go_sem],by simp[go_sem]⟩);replace b6:=abZ kq b6;replace f6:=abZ kq f6;replace c1:=abZ kq c1;replace c2:=abZ kq c2;have sF:=jq (sE.out.keep kq);have eS:=jq kq;clear nW kq;refine jC 13 (D:=[0,1,2,3,4,5,6,7,8,9,10,11,14,15,12]) (val:=fj g (m+1) c8 m none 0 0 W.heap.size xf xt (.slice (some ⟨wZ.heap.size,0,none⟩) 1 1) undef) nf oX (hH.next nf oX hr) (by kernel_rfl) ?_ ?_
             ·intro i bl de o ho a' hb bw;have k6':=adK hb fB.out;have k13':=adK hb sf.out;have k9':=adK hb sj.out;simp[Act.eval] at k6' k13' k9'
              repeat' (rcases bl with _ | ⟨_,bl⟩)
              all_goals first
               | (exfalso;simp at de;done)
               | (cases ho
                  try simp[Act.eval,Region.binds,fj,iB] at bw
                  refine iX (by simp[Region.wanted]) ?_;simp[Oper.quietAt,Oper.quietUpon,execOp,go_sem,fj,k6',k13',k9',b6,f6,c1,c2,nU,jr,bw])
             ·intro f listed a' hH hr hv;have av6:=hv 6;have av12:=hv 12;simp[fj,iB] at av6 av12;simp only[wpOp];simp[Region.wanted];refine .inl ?_;refine OG wA (.tmp 68) (.tmp 74) rfl w6.heap.size (.slice none 0 0) [] av6 (sF.out.rows.fresh _ (gQ HY.out)) wZ.heap.size xf xt av12 wL.out.1 wL.out.2 (by have:=EH.out;omega) (by omega) ?_;intro v8 wB gi dl ls;obtain⟨eA,ec,rfl⟩:=MZ gi (n:=1) (by rw[List.length_append,sC.out];rfl);have Vt:=dl.size;have ffA:wA.frozen? ⟨g,m * 8+6,none⟩=false:=sF.out.rows.row.frozenAt fF.out _;have qc:wB.heap[Bh]?=wA.heap[Bh]?:=dl.block Bh (by omega) (λe=>by have:=(lc.out Bh e.symm).1;omega);have tC:wB.heap[g]?=wA.heap[g]?:=dl.block g (by omega) (λe=>(lc.out g e.symm).2.1 rfl);have tB:wB.heap[W.heap.size]?=wA.heap[W.heap.size]?:=dl.block W.heap.size (by omega) (λe=>(lc.out _ e.symm).2.2 rfl);replace b6:=(iQ (a:=⟨Bh,0,none⟩) qc).trans b6;replace f6:=(iQ (a:=⟨g,m * 8+6,none⟩) tC).trans f6;replace c1:=(iQ (a:=⟨W.heap.size,1,none⟩) tB).trans c1;replace c2:=(iQ (a:=⟨W.heap.size,2,none⟩) tB).trans c2;have ff:=(World.frozen?_of_block (a:=⟨g,m * 8+6,none⟩) tC).trans ffA;have H8:=jq (And.intro gi (And.intro dl ls));clear gi dl ls qc tC tB ffA;refine jC 16 (D:=[0,1,2,3,4,5,6,7,8,9,10,11,14,15,12,13]) (val:=fj g (m+1) c8 m none 0 0 W.heap.size xf xt (.slice (some ⟨wZ.heap.size,0,none⟩) 1 1) (.slice eA 1 ec)) nf oX (hH.next nf oX hr) (by kernel_rfl) ?_ ?_
              ·intro i bl de o ho a' hb bw;have k6':=adK hb fB.out;have k13':=adK hb sf.out;have k9':=adK hb sj.out;simp[Act.eval] at k6' k13' k9'
               repeat' (rcases bl with _ | ⟨_,bl⟩)
               all_goals first
                | (exfalso;simp at de;done)
                | (cases ho
                   try simp[Act.eval,Region.binds,fj,iB] at bw
                   refine iX (by simp[Region.wanted]) ?_;simp[Oper.quietAt,Oper.quietUpon,execOp,go_sem,fj,k6',k13',k9',b6,f6,c1,c2,nU,jr,bw])
              ·intro f listed a' hH hr hv;have av13:=hv 13;have av15:=hv 15;simp[Act.eval,fj,iB] at av13 av15;simp only[wpOp];simp[Region.wanted];refine .inl ?_;simp[Oper.wp,execOp,go_sem,av13,av15,f6,ff];refine Dp hH hr HM.out nf (by kernel_rfl) λma=>?_
               ·rw[ma,ph.out];simp[ni,Act.put,fj,iB];clear hv hH ma;clear b6 f6 c1 c2 ff;obtain⟨W',hW'⟩:=abK (wB.setCell ⟨g,m * 8+6,none⟩ (.slice eA 1 ec));have D3:Hid (PubK S W₂ w6.heap.size z (λk=>M1 k\/(Value.slice eA 1 ec).ownBlock=some k) (u1.set m (x,[] ++ [⟨xf,xt⟩],.slice eA 1 ec)) (.slice (some ⟨g,0,none⟩) (m+1) c8) W'):=jq (by rw[<-hW'];exact sF.out.changed fF.out HY.out H8.out.2.1 H8.out.1 H8.out.2.2);have jG:Hid (Below w6.heap.size wZ W'):=jq (by rw[<-hW'];exact ((eS.out.acQ).trans ((vQ _ _).grown H8.out.2.1 (by omega) (λk e=>(lc.out k e).1))).setCell (by dsimp only;omega) _);have EF:Hid ((u1.set m (x,[] ++ [(⟨xf,xt⟩:Np.Span)],Value.slice eA 1 ec)).map (·.1)=u1.map (·.1)):=jq (NO HY.out rfl);rw[hW'];have Mh:W'.heap.size=wB.heap.size:=by rw[<-hW'];simp[World.setCell]
                gi_wp2_with fail;go_roundw
                case measure=>simp[intOf] <;> omega
                case rel=>exact⟨j+1,_,_,_,by omega,by go_num,by omega,jq (aeQ AH.out jG.out),jq (aeQ DI.out jG.out),jq (by rw[EF.out];exact AG.out.keep jG.out (by omega)),D3,jq ⟨.inl sJ.out.1,.inl sJ.out.2.1,.inl sJ.out.2.2⟩,jq (jJ.out _)⟩
     ·obtain rfl:j=xn:=by omega
      obtain⟨KR,mP⟩:=fK.out.stop;have Ey:=jq KR;have xp:=jq mP;have Qs:Hid (RdStep (λk=>k=Bh\/k=Bh+1\/k=Bh+1+1) w6 wr):=jq (eU.out.trans fK.out.rd (λk e=>by have:=el.out k e;omega));clear KR mP;gi_wp2_with fail;refine⟨λk=>S k\/(W₂.heap.size<=k/\k<wr.heap.size),fK.out.rd.mono (λk e=>.inl e),λk e=>?_,λk e=>?_,us,ov,_,.inl sP.out.1,.inl sP.out.2.1,.inl sP.out.2.2,xp.out,λk e=>?_,λk e=>.inr e,.inl dK.out.1,.inl dK.out.2.2,.inl dK.out.2.1,uk.out,?_,Ii.out,Ey.out,?_,Qs.out⟩
      ·rcases e with e | e
       ·exact .inl (.inl e)
       ·exact .inr e.1
      ·rcases e with e | e
       ·have:=Qv.out k e;omega
       ·exact e.2
      ·rcases e with e | e
       ·exact el.out k e
       ·right;right;right;omega
      ·have e:(!(pre ++ [((⟨xh,xf,xt,xs,xA,j,xc⟩,cc):CV×Np.Copy)]).isEmpty)=true:=by simp
       rw[e];exact Io.out
      ·rw[oe.out,<-Xl Jq.out];exact kh.out
end
section
open Go.RowKit
noncomputable def Np.oY(h:Np.Hist)(z:List UInt8):Int×List Np.Held:=if Np.yes (Np.sW h z) then (if Np.yes (Np.uD h z) then (0,Np.pub h.copies z) else (4,[])) else (1,[])
noncomputable def Np.uf(h:Np.Hist):Int×List (List UInt8):=if Np.yes (Np.VHist h) then (0,Np.apexes h.copies) else (1,[])
theorem Np.Xy{h:Np.Hist}{z:List UInt8}(k:¬ Np.sW h z):Np.oY h z=(1,[]):=by unfold Np.oY;rw[Np.aK k];rfl
theorem Np.Xz{h:Np.Hist}{z:List UInt8}(k:Np.sW h z)(k2:¬ Np.uD h z):Np.oY h z=(4,[]):=by unfold Np.oY;rw[Np.bS k,Np.aK k2];rfl
theorem Np.Nc{h:Np.Hist}{z:List UInt8}(k:Np.sW h z)(k2:Np.uD h z):Np.oY h z=(0,Np.pub h.copies z):=by unfold Np.oY;rw[Np.bS k,Np.bS k2];rfl
theorem Np.OO{h:Np.Hist}(k:Np.VHist h):Np.uf h=(0,Np.apexes h.copies):=by unfold Np.uf;rw[Np.bS k];rfl
theorem Np.ON{h:Np.Hist}(k:¬ Np.VHist h):Np.uf h=(1,[]):=by unfold Np.uf;rw[Np.aK k];rfl
structure pu(w:World)(e:List Value)(h:Np.Hist):Prop where
 rh:jg w w.heap.size e h
 use:Np.Use h
 sums:Np.lS h
theorem pu.keep{w w':World}{e:List Value}{h:Np.Hist}(k:pu w e h)(hb:Below w.heap.size w w'):pu w' e h:=
 ⟨rW _ _ _ _ _ (rV _ _ _ _ _ k.rh hb) hb.size,k.use,k.sums⟩
structure kj(n:Nat)(w:World):Prop where
 rules:f9 w n
 pow:gu w
 lt:1<n
theorem kj.keep{n:Nat}{w w':World}(k:kj n w)(hb:Below n w w'):kj n w':=⟨k.rules.keep hb,k.pow.keepAt hb k.lt,k.lt⟩
theorem kj.more{n m:Nat}{w:World}(k:kj n w)(h:n<=m):kj m w:=⟨k.rules.more h,k.pow,lQ k.lt h⟩
theorem kj.next{w w':World}(k:kj w.heap.size w)(hb:Below w.heap.size w w'):kj w'.heap.size w':=(k.keep hb).more hb.size
theorem Ra{h:Np.Hist}(v:Np.VHist h):∀ x∈Np.apexes h.copies,x.length<=140737488355328:=λx hx=>by
 obtain⟨c,hc,rfl⟩:=Np.zO.1 hx;have h1:=(Np.ug (v.each c hc).zone).1
 have:=(Np.vL h1).1
 omega
theorem JK(l:List Np.Copy):(Np.apexes l).length<=l.length:=by
 unfold Np.apexes;rw[(Np.De _).length_eq]
 have:=Np.wl (l.map (·.zone.apex))
 rwa [List.length_map] at this
theorem aG.around{base n:Nat}{w:World}{v:Value}{ps:List Np.Span}(h:aG base w v ps)(hn:n<=base)(hl:ps.length<=140737488355328):fY cB 2 0 n w v ps:=λM hM=>by
 have h1:aG base (be w M) v ps:=cM h (λg hg=>kf (λe=>by have:=hM g e;have:=(World.ownsRow.lt h g hg).1;omega));have h2:=h1.slr hl;rwa [gl] at h2
theorem bV.around{base n:Nat}{w:World}{v:Value}{ps:List (List UInt8)}(h:bV base w v ps)(hn:n<=base)(hl:ps.length<=140737488355328)(hs:∀ x∈ps,x.length<=140737488355328):fY RTx 1 0 n w v ps:=λM hM=>by
 have h1:bV base (be w M) v ps:=cM h (λg hg=>kf (λe=>by have:=hM g e;have:=(World.ownsRow.lt h g hg).1;omega));have h2:=h1.slr hl hs;rwa [gl] at h2
structure WAt(n:Nat)(w:World)(e:List Value)(x:Np.WorldP)(A1:Option Addr)(n1 c1:Nat)(A2:Option Addr)(n2 c2:Nat)(s:ByteArray)(ty lf:Int)(A3:Option Addr)(n3 c3:Nat)(A4:Option Addr)(n4 c4:Nat):Prop where
 val:e = [.slice A1 n1 c1,.slice A2 n2 c2,.string s,.int .i64 ty,.int .i64 lf,.slice A3 n3 c3,.slice A4 n4 c4]
 all:ES w w.heap.size e x
 zones:fY sX 3 0 n w (.slice A2 n2 c2) x.zones
 len:x.zones.length=n2
theorem WAt.keep{n:Nat}{w w':World}{e:List Value}{x:Np.WorldP}{A1:Option Addr}{n1 c1:Nat}{A2:Option Addr}{n2 c2:Nat}{s:ByteArray}{ty lf:Int}{A3:Option Addr}{n3 c3:Nat}{A4:Option Addr}{n4 c4:Nat}(h:WAt n w e x A1 n1 c1 A2 n2 c2 s ty lf A3 n3 c3 A4 n4 c4)(hb:Below w.heap.size w w'):WAt n w' e x A1 n1 c1 A2 n2 c2 s ty lf A3 n3 c3 A4 n4 c4:=
 ⟨h.val,YF _ _ _ _ _ (YE _ _ _ _ _ h.all hb) hb.size,h.zones.keep C7 G5 hb,h.len⟩
theorem cPub(e:List Value)(h:Np.Hist)(z:ByteArray)(hz:z.size<=140737488355328)(w:World)(hV:kj w.heap.size w)(k:pu w e h) :
 Calls prog 61 #[.agg e.toArray,.string z] w λe w'=>∃ A n c,e = .returned (.tuple #[.slice A n c,.int .i64 (Np.oY h z.data.toList).1])/\(Np.oY h z.data.toList).2.length=n/\fY ea 8 0 w.heap.size w' (.slice A n c) (Np.oY h z.data.toList).2/\Below w.heap.size w w':=
 (XE e h k.use.fewH k.sums z hz (k.use.pairs _) w hV.rules hV.pow k.rh).mono λe w' ⟨h1,h2⟩=>by
   rcases h1 with ⟨n1,rfl⟩ | ⟨n1,⟨n2,rfl⟩ | ⟨n2,v',rfl,h3⟩⟩
   ·rw[Np.Xy n1];exact⟨_,_,_,rfl,rfl,fY.nil _ _ _ _,h2⟩
   ·rw[Np.Xz n1 n2];exact⟨_,_,_,rfl,rfl,fY.nil _ _ _ _,h2⟩
   ·rw[Np.Nc n1 n2];obtain⟨A,c,rfl⟩:=h3.form;exact⟨_,_,_,rfl,rfl,h3,h2⟩
theorem cZon(e:List Value)(h:Np.Hist)(w:World)(hV:kj w.heap.size w)(k:pu w e h) :
 Calls prog 60 #[.agg e.toArray] w λe w'=>∃ A n c,e = .returned (.tuple #[.slice A n c,.int .i64 (Np.uf h).1])/\(Np.uf h).2.length=n/\fY RTx 1 0 w.heap.size w' (.slice A n c) (Np.uf h).2/\Below w.heap.size w w':=
 (aaK e h k.use.fewH w hV.rules k.rh).mono λe w' ⟨h1,h2⟩=>by
   rcases h1 with ⟨n1,v',rfl,h3⟩ | ⟨n1,rfl⟩
   ·rw[Np.OO n1];have h4:=h3.around (bQ _) (by have h4:=JK h.copies;have h5:=k.use.copies;omega) (Ra n1);obtain⟨A,c,rfl⟩:=h4.form;exact⟨_,_,_,rfl,rfl,h4,h2⟩
   ·rw[Np.ON n1];exact⟨_,_,_,rfl,rfl,fY.nil _ _ _ _,h2⟩
theorem Rp(e:List Value)(h:Np.Hist)(w:World)(k:pu w e h) :
 Calls prog 44 #[.agg e.toArray] w (aeJ w.heap.size w (.bool (Np.yes (Np.VHist h)))):=
 X6 e h k.use.fewH w k.rh
theorem G4{w:World}{B:Nat}{e:List Value}{h:Np.Hist}(k:jg w B e h):∃ A1 n1 c1 A2 n2 c2 s ty lf A3 n3 c3 A4 n4 c4 dr st,e = [.slice A1 n1 c1,.slice A2 n2 c2,.string s,.int .i64 ty,.int .i64 lf,.slice A3 n3 c3,.slice A4 n4 c4,.int .i64 dr,.int .i64 st]/\h.hosts.length=n1/\h.copies.length=n2/\h.stop=st/\SlR kl 3 w B (.slice A1 n1 c1) h.hosts/\SlR mG 5 w B (.slice A2 n2 c2) h.copies:=by
 obtain⟨hv,cv,s,dv,cX,rfl,_,_,h3,h4,h5,h6⟩:=k;obtain⟨A1,c1,rfl,_⟩:=aj h3;obtain⟨A2,c2,rfl,_⟩:=aj h4;obtain⟨A3,c3,rfl,_⟩:=aj h5;obtain⟨A4,c4,rfl,_⟩:=aj h6;exact⟨A1,_,c1,A2,_,c2,s,_,_,A3,_,c3,A4,_,c4,_,_,rfl,rfl,rfl,rfl,h3,h4⟩
theorem Yu:gb RTx:=λ_ _ _ _ _ _ _ h=>h
theorem Dc{α:Type}{R:afQ α}{sz:Nat}{w:World}{B:Nat}{v:Value}{xs:List α}(h:SlR R sz w B v xs):∃ A n c,v = .slice A n c:=by
 obtain⟨A,c,rfl,_⟩:=aj h;exact⟨_,_,_,rfl⟩
theorem Np.aaZ{z:Np.Zone}(v:Np.VZone z){x:Np.Signed}(hx:x∈z.sets):Np.UseB x:=by
 obtain⟨_,hv⟩:=Np.ug v;obtain⟨_,_,_,h4,h5,_⟩:=Np.rY (hv x hx);refine⟨by omega,λg r hg=>?_⟩
 have:=((v.form x hx).2 0 g (by rw[hg];rfl)).win
 omega
theorem Np.XD{h:Np.Hist}(v:Np.VHist h){z:List UInt8}{x:Np.Held}(hx:x∈Np.pub h.copies z):Np.UseB x.signed:=by
 obtain⟨_,_,_,⟨c,hc,_,h1⟩,_⟩:=Np.CO v.full hx;exact Np.aaZ (v.each c hc).zone h1
theorem Np.XC{h:Np.Hist}(v:Np.VHist h){z:List UInt8}{x:Np.Held}(hx:x∈Np.pub h.copies z):∀ s∈x.fresh,0<=s.frm/\s.frm<s.til/\s.til<=10000000:=λs hs=>by
 obtain⟨_,_,m3,_,m5⟩:=Np.CO v.full hx;have hf:=m3.full s hs;obtain⟨c,hc,_,_,k1,_⟩:=(m5 s.frm).1 ⟨s,hs,Int.le_refl _,hf⟩;obtain⟨d,hd,_,_,_,k2⟩:=(m5 (s.til - 1)).1 ⟨s,hs,by omega,by omega⟩;have e1:=(v.each c hc).times;have e2:=(v.each d hd).times;have e3:=v.stop;omega
theorem Np.Xv{h:Np.Hist}(v:Np.VHist h)(u:Np.Use h){x:Np.Held}(hx:x∈Np.pubAll h):Np.UseB x.signed/\(∀ s∈x.fresh,0<=s.frm/\s.frm<s.til/\s.til<=10000000)/\x.fresh.length<=20000:=by
 obtain⟨z,_,hz⟩:=Np.GS.1 hx;refine⟨Np.XD v hz,Np.XC v hz,?_⟩;have hp:=u.pairs z;unfold Np.pub Np.pX at hz;obtain⟨s,_,rfl⟩:=List.mem_map.1 hz;exact yQ (tU _) (yQ (Dk _ _) (by omega))
theorem Np.Use.pubTo{h:Np.Hist}(u:Np.Use h)(k:Nat):(Np.pubTo h k).length<=2100:=Np.Nb (λc hc=>(u.each c hc).1) u.copies k
theorem Np.Use.pubAll{h:Np.Hist}(u:Np.Use h):(Np.pubAll h).length<=2100:=Np.Xu (λc hc=>(u.each c hc).1) u.copies
theorem JX(e:List Value)(h:Np.Hist)(w:World)(hV:kj w.heap.size w)(k:pu w e h) :
 Calls prog 19 #[.agg e.toArray] w λe w'=>∃ A n c,e = .returned (.tuple #[.slice A n c,.int .i64 (Np.oz h).1])/\(Np.oz h).2.length=n/\fY ea 8 0 w.heap.size w' (.slice A n c) (Np.oz h).2/\Below w.heap.size w w':=by
 obtain⟨A1,n1,c1,A2,n2,c2,s,ty,lf,A3,n3,c3,A4,n4,c4,dr,st,rfl,-,-,av,T6,TH⟩:=G4 k.rh;have pp:Hid (h.drift=dr):=jq (by
  obtain⟨hv,cv,s',dv,cX,he,_⟩:=k.rh;simp only[List.cons.injEq,Value.int.injEq,true_and,and_true] at he;exact he.2.2.2.2.2.2.2.1.symm)
 have ou:=jq hV;have HI0:=jq k;obtain⟨X,hX⟩:=abK w.heap.size;obtain⟨w1,ak⟩:=abK (w.alloc (.cells #[.slice A1 n1 c1,.slice A2 n2 c2,.string s,.int .i64 ty,.int .i64 lf,.slice A3 n3 c3,.slice A4 n4 c4,.int .i64 dr,.int .i64 st] 29));have bg:w1.heap.size=X+1:=by rw[<-ak,<-hX];simp
 have hb:Below w.heap.size w w1:=by rw[<-ak];exact (vQ _ _).alloc (bQ _) _
 have az:=jq hb;have gJ:=jq (hV.next hb);have wT:=jq (k.keep hb);have dg:=jq (oB _ _ hX ak);clear hb hV k av T6 TH;have k0:=dg.out 0 _ rfl;have k1:=dg.out 1 _ rfl;have k2:=dg.out 2 _ rfl;have k3:=dg.out 3 _ rfl;have k4:=dg.out 4 _ rfl;have k5:=dg.out 5 _ rfl;have k6:=dg.out 6 _ rfl;have k7:=dg.out 7 _ rfl;have k8:=dg.out 8 _ rfl;obtain⟨ax,uV⟩:=abK (Np.oz h);rw[uV];have wE:=jq uV;clear uV;go_enter func19,ntmps19;go_wp2_with fail;clear ak;refine (cZon _ h w1 gJ.out wT.out).mono ?_;rintro e w2 ⟨Az,nz,cz,rfl,Ly,dN,hb⟩;have ai:=jq (az.out.trans (hb.mono az.out.size));have lP:=jq (gJ.out.next hb);have qI:=jq (wT.out.keep hb);have dJ:=jq (dg.out.keep hb (by omega));have aO:=hb.size;have ij:=jq (dN.all Yu);have IQ:=jq Ly;clear hb dN Ly k0 k1 k2 k3 k4 k5 k6 k7 k8;by_cases eX:Np.VHist h
 case neg=>
  rw[Np.ON eX];have HN:=jq eX;clear eX;go_wp2_with fail;refine bodyPost_ret (v:=.tuple #[.slice none 0 0,.int .i64 1]) (by simp[results,results19,go_sem]) rfl ?_;rw[<-wE.out,Np.EV HN.out];exact⟨_,_,_,rfl,rfl,fY.nil _ _ _ _,ai.out⟩
 case pos=>
  have pG:=jq eX;rw[Np.OO eX] at ij IQ |-;have OY:=jq (wE.out.symm.trans (Np.xN eX));have Jc:Hid (SlR RTx 1 w2 w2.heap.size (.slice Az nz cz) (Np.apexes h.copies)):=jq ij.out;have Ec:Hid ((Np.apexes h.copies).length=nz):=jq IQ.out;have kU:Hid (0<=dr/\dr<=1000):=jq (by rw[<-pp.out];exact eX.drift);clear eX;obtain⟨B,hB⟩:=abK w2.heap.size;have Ti:X<B:=by omega
  obtain⟨i0,lw,dI,GH,GI⟩:=info_parts Tryz.infoHeldA;have tp:nz<=cz:=by
   obtain⟨A',c',h1,h2,_⟩:=aj Jc.out;simp only[Value.slice.injEq] at h1;omega
  have iU:nz<=1000:=by
   have h1:=Ec.out;have h2:=JK h.copies;have h3:=qI.out.use.copies;omega
  go_wp2_with fail;go_loopw [6,23] (λvo i wr=>∃ (k m:Nat) (A:Option Addr) (c:Nat) (M:Nat->Prop),k<=nz/\i = .int .i64 k/\vo = .slice A m c/\(Np.pubTo h k).length=m/\Hid ((∀ j,j<X->M j)/\∀ j,M j->(j<X\/B<=j)/\j<wr.heap.size)/\Hid (bN ea 8 57 B M wr (.slice A m c) (Np.pubTo h k))/\Hid (Below B w2 wr)) (λ_ i _=>nz - (intOf i).toNat)
  case atStart=>exact⟨0,0,none,0,λj=>j<X,jQ _,rfl,rfl,rfl,jq ⟨λ_ h=>h,λj h=>⟨.inl h,by omega⟩⟩,jq (bN.nil _),jq (vQ _ _)⟩
  case round=>
   obtain⟨k,m,A,c,M,hk,rfl,rfl,hm,HM,HO,HB⟩:=hrel;have al:=HB.out.size;have gV:m<=2100:=by rw[<-hm];exact qI.out.use.pubTo k
   have dK:=jq hm;clear hm;by_cases aa:k<nz
   ·obtain⟨z,ac⟩:∃ z,(Np.apexes h.copies)[k]?=some z:=⟨_,aQ (by have:=Ec.out;omega)⟩;have dY:=Jc.out.later mv NF (show Below w2.heap.size w2 wr by rw[hB];exact HB.out);obtain⟨b,o,zs,rfl,bq,qw,kK,e0⟩:=pa dY ac;have QN:=jq qw;have Jr:=jq (Np.zO.1 (gQ ac));have Ev:=jq (Np.Xx ac);have QG:=jq (lP.out.next (show Below w2.heap.size w2 wr by rw[hB];exact HB.out));have PM:=jq (qI.out.keep (show Below w2.heap.size w2 wr by rw[hB];exact HB.out));have lK:=jq (dJ.out.keep HB.out (by omega));have k0:=lK.out 0 _ rfl;have k1:=lK.out 1 _ rfl;have k2:=lK.out 2 _ rfl;have k3:=lK.out 3 _ rfl;have k4:=lK.out 4 _ rfl;have k5:=lK.out 5 _ rfl;have k6:=lK.out 6 _ rfl;have k7:=lK.out 7 _ rfl;have k8:=lK.out 8 _ rfl;have bL:(0:Int)<=(k:Int):=by omega
    have bY:(k:Int)<(nz:Int):=by omega
    clear dY ac qw;go_wp2_with fail;refine (cPub _ h zs kK wr QG.out PM.out).mono ?_;rw[QN.out];rintro e w3 ⟨Ap,np,cp,rfl,za,Cz,hb⟩;have aU:Np.oY h z=(0,Np.pub h.copies z):=Np.Nc ⟨pG.out,by
     obtain⟨c',hc',rfl⟩:=Jr.out;exact (Np.ug (pG.out.each c' hc').zone).1⟩ Jr.out
    rw[aU] at za Cz |-;dsimp only at za Cz;have nB:=jq za;have ki:Hid (uF ea 8 M w3 Ap (Np.pub h.copies z)):=jq (Ys (Cz M (λj hj=>⟨jQ _,(HM.out.2 j hj).2⟩)) (by decide));have ig:=jq (HO.out.keep jA nk iD hb);have aB:=abJ HB hb;have fW:=hb.size;have hmp:m+np<=2100:=by
     have h1:=qI.out.use.pubTo (k+1);rw[Ev.out,List.length_append,dK.out,za] at h1;exact h1
    have ld:=jq (HO.out.lt);clear hb za Cz aU k0 k1 k2 k3 k4 k5 k6 k7 k8 e0;go_wp2_with (at_builtin;refine ZW (R:=ea) (M:=M) w3 rfl _ _ 52 rfl B 57 i0 (.agg #[.string ⟨#[]⟩,.string ⟨#[]⟩,.int .i64 0,.int .i64 0,.slice none 0 0,.slice none 0 0,.slice none 0 0,.slice none 0 0]) 144 underlying52 lw dI GH GI rfl (by decide) (.slice A m c) (Np.pubTo h k) rfl ig.out Ap cp (Np.pub h.copies z) (by rw[nB.out];rfl) ki.out Nx (by rw[dK.out,nB.out];unfold maxLen;omega) (by rw[dK.out,nB.out];omega) (by omega) jA nk iD ?_;intro v8 w8 gi dl ls;obtain⟨A8,c8,rfl⟩:=bN.formN gi (n:=m+np) (by rw[List.length_append,dK.out,nB.out]);have H8:=jq (And.intro gi (And.intro dl ls));clear gi dl ls);have vg:decide ((20000:Int)<((m+np:Nat):Int))=false:=acJ;have vI:=H8.out.2.1.size;go_wp2_with fail;go_roundw
    case rel=>
     refine⟨k+1,m+np,A8,c8,_,by omega,by go_num,rfl,by rw[Ev.out,List.length_append,dK.out,nB.out],jq ⟨λj hj=>Or.inl (HM.out.1 j hj),λj hj=>?_⟩,jq (by rw[Ev.out];exact H8.out.1),jq (aB.out.trans ((vQ _ _).grown H8.out.2.1 (by omega) (λg hg=>(ld.out g hg).1)))⟩;rcases hj with hj | hj
     ·have:=HM.out.2 j hj
      omega
     ·have:=H8.out.1.lt j hj
      omega
    case measure=>simp[intOf] <;> omega
   ·have Qf:Hid (Np.pubTo h k=Np.pubAll h):=jq (Np.Na (by have:=Ec.out;omega));rw[Qf.out] at HO dK;go_wp2_with fail;clear aa hk;obtain⟨w4,rfl⟩:=abX wr;go_loopw [45] (λi wr=>∃ (k:Nat),k<=m/\i = .int .i64 k/\w4.heap.size<=wr.heap.size/\Hid (bN ea 8 57 B M wr (.slice A m c) (Np.mI dr (Np.pubAll h) k))/\Hid (Below B w2 wr)) (λi _=>m - (intOf i).toNat)
    case atStart=>exact⟨0,jQ _,rfl,bQ _,HO,HB⟩
    case round=>
     obtain⟨k,hk,rfl,Gn,dh,HC⟩:=hrel;have kF:=HC.out.size;have ic:Hid ((Np.mI dr (Np.pubAll h) k).length=m):=jq (by rw[Np.Q3];exact dK.out);by_cases aa:k<m
     ·obtain⟨x,ac⟩:∃ x,(Np.pubAll h)[k]?=some x:=⟨_,aQ (by rw[dK.out];exact aa)⟩;obtain⟨g,cap,hA,Fo,F0,hMg⟩:=dh.out.formSome ic.out (by omega);simp only[Value.slice.injEq,true_and] at hA;obtain⟨rfl,rfl⟩:=hA;obtain⟨b,o,zs,sn,dv,sv,fv,pv,dX,bq,qw,aw,aR,aN,jY,kA,e0,e1,e2,e3,e4,e5,e6,e7⟩:=yK (dh.out.slr nk (by rw[ic.out];omega)) (Np.JJ ac);simp only[Option.some.injEq,Addr.mk.injEq,and_true] at dX;obtain⟨rfl,rfl⟩:=dX;obtain⟨dA,dn,dc,rfl⟩:=Dc aR;obtain⟨gA,gn,gc,rfl⟩:=Dc aN;obtain⟨fA,fn,fc,rfl⟩:=Dc jY;obtain⟨pA,pn,pc,rfl⟩:=Dc kA;have ot:=jq aN;have wP:=jq jY;have Bf:=jq (Np.Xv pG.out qI.out.use (gQ ac));have HAT:=jq (Np.JJ (d:=dr) ac);have cJ:=jq (Np.Q4 (d:=dr) ac);obtain⟨w5,aJ⟩:=abK (wr.alloc (.cells #[.string zs,.string sn,.int .i64 x.signed.set.type,.int .i64 x.signed.set.life,.slice dA dn dc,.slice gA gn gc,.slice fA fn fc,.slice pA pn pc] 57));have aF:Below wr.heap.size wr w5:=by rw[<-aJ];exact (vQ _ _).alloc (bQ _) _
      have kJ:wr.heap.size<w5.heap.size:=by rw[<-aJ];simp
      have oh:=jq (oB _ _ rfl aJ);have cO:=jq aF;have dp:=abJ HC aF;have k7:=(dJ.out.keep dp.out (by omega)) 7 _ rfl;have bL:(0:Int)<=(k:Int):=by omega
      have bY:(k:Int)<(m:Int):=by omega
      have E7:Hid (wr.cell? ⟨g,k * 8+7,none⟩=some (.slice pA pn pc)):=jq (by simpa using e7);simp only[Nat.zero_add] at e0 e1 e2 e3 e4 e5 e6 e7;have d0:=oh.out 0 _ rfl;have d1:=oh.out 1 _ rfl;have d2:=oh.out 2 _ rfl;have d3:=oh.out 3 _ rfl;have d4:=oh.out 4 _ rfl;have d5:=oh.out 5 _ rfl;have d6:=oh.out 6 _ rfl;have d7:=oh.out 7 _ rfl;clear ac qw aw aR aN jY kA aF;go_wp2_with fail;clear aJ e0 e1 e2 e3 e4 e5 e6 e7 d0 d1 d2 d3 d4 d5 d6 d7;refine (Zw x Bf.out.1 dr kU.out Bf.out.2.1 Bf.out.2.2 zs sn dA gA fA pA dn dc gn gc fn fc pn pc w5 (ot.out.later cT dU cO.out) (wP.out.later bR dZ cO.out)).mono ?_;rintro e w6 ⟨v6,rfl,mf,hb⟩;obtain⟨A6,c6,rfl⟩:=mf.form;obtain⟨n6,zc⟩:=abK ((Np.iE x dr).length);rw[zc] at mf |-;have xg:=jq mf;have ke:=hb.size;have jG:=abJ cO hb;have IZ:=jq (dh.out.keep jA nk iD jG.out);have q7:=abZ jG.out E7.out;have z7:=IZ.out.frozenAt ic.out (k * 8+7);have IV:=jq zc;clear mf hb k7 zc;go_wp2_with fail;go_roundw
      case rel=>
       refine⟨k+1,by omega,by go_num,by simp[World.setCell];omega,jq ?_,jq ((HC.out.trans (jG.out.acQ)).setCell (by dsimp only;omega) _)⟩;rw[<-cJ.out];have CA:SlR cB 2 (be w6 M) w6.heap.size (.slice A6 n6 c6) (Np.iE x dr):=(xg.out.around (n:=w5.heap.size) (bQ _) (by rw[IV.out];have:=tU (x.fresh.map (Np.ko x.signed dr));have h2:=IV.out;unfold Np.iE at h2;rw[List.length_map] at this;have:=Bf.out.2.2;omega)) M (λj hj=>⟨jQ _,by have:=(HM.out.2 j hj).2;omega⟩)
       have:=bN.stored jA nk iD IZ.out ic.out HAT.out (c:=7) (by decide) (.slice A6 n6 c6) (y:=⟨x.zone,x.signed,x.fresh,Np.iE x dr⟩) (λr _ hr=>Yo hr CA)
       simpa using this
      case measure=>simp[intOf] <;> omega
     ·have ba:Hid (Np.mI dr (Np.pubAll h) k=Np.gN h):=jq (by rw[<-pp.out];exact Np.Q2 (by rw[dK.out];omega));rw[ba.out] at dh ic;have HE:Hid (Below w.heap.size w wr):=abJ ai HC.out;go_wp2_with fail;refine bodyPost_ret (v:=.tuple #[.slice A m c,.int .i64 0]) (by simp[results,results19,go_sem]) rfl ?_;rw[OY.out];refine⟨_,_,_,rfl,ic.out,λM' hM'=>?_,HE.out⟩;exact dh.out.slr_sans nk iD (λj hj=>⟨HM.out.1 j (by have:=(hM' j hj).2;omega),λe=>by have:=(dh.out.lt j e).1;have:=(hM' j hj).2;omega⟩) (by rw[ic.out];omega)


end
section
open Go.RowKit Go.Shelf
attribute [local go_sem] Oper.semAt_some
theorem Np.WT(l:List Np.Span):(Np.rS l).length<=l.length+1:=by
 have:=Np.MS l ([],0)
 unfold Np.rS;split <;> simp at this |- <;> omega
theorem Np.o7{l:List Np.Span}(h:Np.kN l=true):Np.SpV l:=by
 unfold Np.kN at h;rw[Bool.and_eq_true] at h;have key:∀ (l:List Np.Span) (p:Option Int),Np.jB p l=true->Np.SpV l/\∀ u,p=some u->∀ s∈l,u<s.frm:=by
  intro l
  induction l with
  | nil=>exact λp _=>⟨⟨Np.ApartS.nil,λs hs=>(by cases hs),λs hs=>(by cases hs)⟩,λu _ s hs=>(by cases hs)⟩
  | cons s r ih=>
   intro p hp;unfold Np.jB at hp;rw[Bool.and_eq_true] at hp;obtain⟨h1,h2⟩:=ih _ hp.2;have hs:(0<=s.frm/\s.frm<s.til/\s.til<=20000000)/\∀ u,p=some u->u<s.frm:=by
    have h3:=hp.1
    cases p with
    | none=>simp[Np.gF] at h3;exact⟨by omega,λu hu=>(by cases hu)⟩
    | some u=>simp[Np.gF] at h3;exact⟨by omega,λu' hu=>(by cases hu;omega)⟩
   refine⟨⟨⟨λx hx=>?_,List.pairwise_cons.2 ⟨λx hx=>h2 _ rfl x hx,h1.ap.apart⟩⟩,λx hx=>?_,λx hx=>?_⟩,λu hu x hx=>?_⟩
   ·rcases List.mem_cons.1 hx with rfl | hx
    ·exact hs.1.2.1
    ·exact h1.ap.full x hx
   ·rcases List.mem_cons.1 hx with rfl | hx
    ·exact hs.1.1
    ·exact h1.lo x hx
   ·rcases List.mem_cons.1 hx with rfl | hx
    ·exact hs.1.2.2
    ·exact h1.hi x hx
   ·rcases List.mem_cons.1 hx with rfl | hx
    ·exact hs.2 u hu
    ·have h3:=hs.2 u hu;have h4:=h2 _ rfl x hx;omega
 exact (key l none h.2).1
end
section
open Go.RowKit Go.Shelf Go.MapKept
attribute [local go_sem] Oper.semAt_some HC.cells
theorem NX{α:Type}{R:afQ α}{sz B:Nat}{w w':World}{v:Value}{xs:List α}(h:SlR R sz w B v xs)(he:w'.heap=w.heap)(hR:∀ e x,R w B e x->R w' B e x:=by exact λ_ _ h=>h):SlR R sz w' B v xs:=by
 obtain⟨A,c,h1,h2,h3,h4⟩:=h;refine⟨A,c,h1,h2,h3,λi x hx=>?_⟩;obtain⟨b,o,e,h5,h6,h7,h8,h9⟩:=h4 i x hx;exact⟨b,o,e,h5,h6,h7,λj v hj=>(iQ (by rw[he])).trans (h8 j v hj),hR _ _ h9⟩
end
section
open Go.RowKit Go.Shelf
theorem Hk{α:Type}{l:List α}{k:Nat}{x:α}(hx:l[k]?=some x):l.take (k+1)=l.take k ++ [x]:=by
 obtain⟨hl,he⟩:=cQ.1 hx;rw[fQ hl,he]
end
section
def Np.fN(d:Int)(x:Np.Held):List Np.Span:=Np.qB x.spans (Np.fl x.signed d 20000000)
def Np.ji(d:Int)(x:Np.Held):List Np.Held:=if Np.fN d x = [] then [] else [{ x with spans:=Np.fN d x }]
def Np.dt(d:Int)(l:List Np.Held):List Np.Held:=l.flatMap (Np.ji d)
noncomputable def Np.qY(h:Np.Hist):Int×List Np.Held:=((Np.oz h).1,Np.dt h.drift (Np.oz h).2)
theorem Np.Ky(d:Int)(l:List Np.Held)(x:Np.Held):Np.dt d (l ++ [x])=Np.dt d l++Np.ji d x:=by unfold Np.dt;rw[List.flatMap_append];simp
theorem Np.BO(d:Int):∀ l:List Np.Held,(Np.dt d l).length<=l.length
 | []=>bQ _
 | x::l=>by
   have h1:=Np.BO d l;have h2:(Np.ji d x).length<=1:=by unfold Np.ji;split <;> simp
   unfold Np.dt at h1 |-;rw[List.flatMap_cons,List.length_append,List.length_cons];omega
theorem Np.aaQ{z:Np.Zone}(v:Np.VZone z){x:Np.Signed}(hx:x∈z.sets):Np.plain x=true:=by
 obtain⟨h1,h2⟩:=v.form x hx;unfold Np.plain;rw[(Np.ug v).2 x hx,uQ h1,Np.Xh (λg hg i y hy=>?_)]
 ·rfl
 ·have h3:=h2 i y hy;exact⟨(h3.same g hg).1,(h3.same g hg).2,h3.win.1,h3.win.2.1,h3.win.2.2⟩
theorem Np.M5{s:Np.Signed}(h:Np.plain s=true):s.set.data.length<=8/\s.sigs.length<=6:=by
 unfold Np.plain at h;simp only[Bool.and_eq_true,Qa] at h;obtain⟨⟨h1,h2⟩,_⟩:=h;unfold Np.da at h1;simp only[Bool.and_eq_true,Qa] at h1;exact⟨by omega,h2⟩
structure Np.GapOk(x:Np.Held):Prop where
 plain:Np.plain x.signed=true
 valid:Np.kN x.spans=true
 few:x.spans.length<=9000
 fresh:x.fresh.length<=9000
theorem Np.JI{h:Np.Hist}(v:Np.VHist h)(u:Np.Use h){x:Np.Held}(hx:x∈Np.gN h):Np.GapOk x:=by
 obtain⟨y,hy,rfl⟩:=List.mem_map.1 hx;obtain⟨z,_,hz⟩:=Np.GS.1 hy;have hp:=u.pairs z;obtain⟨_,_,_,⟨c,hc,_,h1⟩,_⟩:=Np.CO v.full hz;have h2:=Np.aaQ (v.each c hc).zone h1;have h3:y.fresh.length<=9000:=by
  unfold Np.pub Np.pX at hz;obtain⟨s,_,rfl⟩:=List.mem_map.1 hz;exact yQ (tU _) (yQ (Dk _ _) (by omega))
 refine⟨h2,Np.Zy v (by omega) hz v.drift ?_,?_,h3⟩
 ·obtain⟨_,_,_,h4,_⟩:=Np.rY ((Np.ug (v.each c hc).zone).2 _ h1);omega
 ·show (Np.iE y h.drift).length<=9000;unfold Np.iE;refine yQ (tU _) ?_;rw[List.length_map];exact h3
theorem Np.An{s:Np.Signed}{d:Int}(hp:Np.plain s=true)(hd:0<=d/\d<=1000):Np.gG s d 20000000=0:=by unfold Np.gG;rw[Qb ⟨hd.1,hd.2,by omega,by omega,hp⟩]
theorem Np.uc{s:Np.Signed}{d:Int}(hp:Np.plain s=true)(hd:0<=d/\d<=1000):Np.kN (Np.fl s d 20000000)=true/\(Np.fl s d 20000000).length<=1:=by
 rw[Np.Hg (Np.An hp hd)];unfold Np.Do;split
 ·exact⟨rfl,by simp⟩
 ·rename_i h;refine⟨?_,by simp⟩;unfold Np.kN;have hb:0<=Np.nm s d/\Np.nn s d 20000000<=20000000:=by
   have hw:=Np.M6 hp;unfold Np.nm Np.nn
   cases hs:s.sigs with
   | nil=>dsimp only;omega
   | cons g r=>
    have:=hw g (by rw[hs];rfl)
    dsimp only;omega
  have:Np.gF none ⟨Np.nm s d,Np.nn s d 20000000⟩=true:=by
   simp[Np.gF];omega
  unfold Np.jB Np.jB;rw[this];rfl
theorem Np.Kv{d:Int}{x:Np.Held}(k:Np.GapOk x)(hd:0<=d/\d<=1000):(Np.fN d x).length<=18000:=by
 obtain⟨h1,h2⟩:=Np.uc (d:=d) k.plain hd;unfold Np.fN;rw[Np.Zc (Np.o7 k.valid) (Np.o7 h1)];have k1:=Np.JV (Np.rS (Np.fl x.signed d 20000000)) x.spans [];have k2:=Np.WT (Np.fl x.signed d 20000000);have k3:x.spans.length * (Np.rS (Np.fl x.signed d 20000000)).length<=9000 * 2:=Nat.mul_le_mul k.few (by omega);unfold Np.JU;simp only[List.length_nil] at k1;omega
theorem Np.N7{l:List Np.Span}{t:Int} : Np.o6 l t=true↔Np.inS l t:=by
 unfold Np.o6 Np.inS;rw[List.any_eq_true];constructor
 ·rintro⟨s,hs,h⟩;simp only[Bool.and_eq_true,Qa] at h;exact⟨s,hs,h⟩
 ·rintro⟨s,hs,h⟩;exact⟨s,hs,by simp only[Bool.and_eq_true,Qa];exact h⟩
theorem Np.Q5{l:List Np.Span}(h:Np.ApartS l)(hn:∀ u,¬ Np.inS l u):l = []:=by
 cases l with
 | nil=>rfl
 | cons s r=>exact absurd ⟨s,by simp,Int.le_refl _,h.full s (by simp)⟩ (hn s.frm)
theorem Np.Kw{d:Int}{x:Np.Held}(k:Np.GapOk x)(hd:0<=d/\d<=1000)(u:Int):Np.inS (Np.fN d x) u↔Np.inS x.spans u/\¬ Np.inS (Np.fl x.signed d 20000000) u:=
 (Np.Hi (Np.o7 k.valid) (Np.o7 (Np.uc k.plain hd).1)).2.2 u
theorem Np.SD{d:Int}{x:Np.Held}(k:Np.GapOk x)(hd:0<=d/\d<=1000):Np.ApartS (Np.fN d x):=
 (Np.Hi (Np.o7 k.valid) (Np.o7 (Np.uc k.plain hd).1)).2.1
theorem Np.Oc{x:Np.Held}(k:Np.GapOk x){u:Int}(h:Np.inS x.spans u):0<=u/\u<20000000:=by
 obtain⟨s,hs,h1,h2⟩:=h;have h3:=(Np.o7 k.valid).lo s hs;have h4:=(Np.o7 k.valid).hi s hs;omega
theorem Np.SF{d:Int}{x:Np.Held}(k:Np.GapOk x)(hd:0<=d/\d<=1000)(hs:x.signed.sigs = []):Np.fN d x = []:=by
 refine Np.Q5 (Np.SD k hd) (λu hu=>?_);obtain⟨h1,h2⟩:=(Np.Kw k hd u).1 hu;have h3:=Np.Oc k h1;refine h2 ?_;rw[Np.Hg (Np.An k.plain hd)];unfold Np.Do Np.nn Np.nm;rw[hs];dsimp only;rw[Qc (by omega)];exact⟨⟨0,20000000⟩,List.mem_singleton.2 rfl,h3.1,h3.2⟩
theorem Np.SE{d t:Int}{x:Np.Held}(k:Np.GapOk x)(hd:0<=d/\d<=1000)(ht:Np.o6 x.spans t=true){g:Np.Sig}(hg:x.signed.sigs[0]?=some g):Np.o6 (Np.fN d x) t=!(decide (g.frm<=t - d)&&decide (t+d<=g.til)):=by
 have h1:=Np.N7.1 ht;have h2:=Np.Oc k h1;have h3:Np.inS (Np.fl x.signed d 20000000) t↔(g.frm<=t - d/\t+d<=g.til):=by
  rw[Np.Hg (Np.An k.plain hd)];unfold Np.Do Np.nn Np.nm
  cases hs:x.signed.sigs with
  | nil=>rw[hs] at hg;cases hg
  | cons g' r=>
   rw[hs] at hg
   cases hg
   dsimp only;by_cases hc:min 20000000 (g.til - d+1)<=g.frm+d
   ·rw[Qb hc];exact⟨λh=>absurd h (Np.ix t),λh=>by omega⟩
   ·rw[Qc hc,Np.zL];dsimp only;omega
 rw[Bool.eq_iff_iff,Np.N7,Np.Kw k hd,h3];simp only[Bool.not_eq_true',Bool.and_eq_false_iff,decide_eq_false_iff_not];constructor
 ·rintro⟨_,h⟩;omega
 ·intro h;exact⟨h1,by omega⟩
theorem Np.Q1{h:Np.Hist}{x y:Np.Held}(hx:x∈Np.gN h)(hy:y∈Np.gN h)(hz:x.zone=y.zone)(hs:x.signed=y.signed):x=y:=by
 have key:∀ x∈Np.gN h,x=(λz s=>(⟨z,s,Np.fX (Np.eG (Np.cN h.copies z) s),Np.iE ⟨z,s,Np.fX (Np.eG (Np.cN h.copies z) s),[]⟩ h.drift⟩:Np.Held)) x.zone x.signed:=λx hx=>by
  obtain⟨x0,bM,rfl⟩:=List.mem_map.1 hx;obtain⟨z,_,hz⟩:=Np.GS.1 bM;unfold Np.pub Np.pX at hz;obtain⟨s,_,rfl⟩:=List.mem_map.1 hz;rfl
 rw[key x hx,key y hy,hz,hs]
theorem Np.Kx{d:Int}{l:List Np.Held}{y:Np.Held} : y∈Np.dt d l↔∃ z∈l,Np.fN d z≠[]/\y = { z with spans:=Np.fN d z }:=by
 unfold Np.dt;rw[List.mem_flatMap];constructor
 ·rintro⟨z,hz,hy⟩;unfold Np.ji at hy;split at hy
  ·cases hy
  ·rename_i hn;rw[List.mem_singleton] at hy;exact⟨z,hz,hn,hy⟩
 ·rintro⟨z,hz,hn,rfl⟩;exact⟨z,hz,by unfold Np.ji;rw[Qc hn];simp⟩
def Np.jU(x:Np.Held)(t:Int)(y:Np.Held):Bool:=decide (y.zone=x.zone)&&(decide (y.signed=x.signed)&&Np.o6 y.spans t)
theorem Np.SK{d t:Int}{l:List Np.Held}(hu:∀ x∈l,∀ y∈l,x.zone=y.zone->x.signed=y.signed->x=y){x:Np.Held}(hx:x∈l):(Np.dt d l).any (Np.jU x t)=Np.o6 (Np.fN d x) t:=by
 rw[Bool.eq_iff_iff,List.any_eq_true];constructor
 ·rintro⟨y,hy,hp⟩;obtain⟨z,hz,_,rfl⟩:=Np.Kx.1 hy;unfold Np.jU at hp;simp only[Bool.and_eq_true,Qa] at hp;obtain⟨h1,h2,h3⟩:=hp;obtain rfl:=hu z hz x hx h1 h2;exact h3
 ·intro h;refine⟨{ x with spans:=Np.fN d x },Np.Kx.2 ⟨x,hx,λe=>?_,rfl⟩,?_⟩
  ·rw[e] at h;cases h
  ·unfold Np.jU;simp only[Bool.and_eq_true,Qa];exact⟨trivial,trivial,h⟩
theorem Np.SI{d:Int}{l:List Np.Held}{i:Nat}{x:Np.Held}(hx:l[i]?=some x)(hg:Np.fN d x≠[]):(Np.dt d l)[(Np.dt d (l.take i)).length]?=some { x with spans:=Np.fN d x }:=by
 obtain⟨hi,he⟩:=cQ.1 hx;have h1:l=l.take i++x::l.drop (i+1):=by
  rw[<-he,List.getElem_cons_drop,List.take_append_drop]
 have h2:Np.dt d l=Np.dt d (l.take i)++({ x with spans:=Np.fN d x } :: Np.dt d (l.drop (i+1))):=by
  conv => lhs;rw[h1]
  unfold Np.dt;rw[List.flatMap_append,List.flatMap_cons];congr 1;unfold Np.ji;rw[Qc hg];rfl
 rw[h2,oQ (bQ _),Nat.sub_self];rfl
end
section
open Go.RowKit Go.Shelf

end
end Go.Proofs.YtfnopgdcaanaiaaGreatDoor
