/- Parts of the proof. No condition. -/
import Derived.Test.YtbfbobfbgabjiaaGreatDoorP26
import Derived.Test.YtbfbobfbgabjiaaGreatDoorP31
import Derived.Test.YtbfbobfbgabjiaaGreatDoorP36
import Derived.Test.YtbfbobfbgabjiaaGreatDoorP39
set_option linter.all false
set_option maxRecDepth 100000
set_option maxHeartbeats 8000000
namespace Go.Proofs.YtbfbobfbgabjiaaGreatDoor
open Go.Proofs.Tryz
section
open Go.RowKit Go.Shelf Go.MapKept
attribute [local go_sem] Oper.semAt_some CV.cells
def za(z:ByteArray):Value->Value
 | .agg xs=>.agg (#[.string z]++xs ++ #[.slice none 0 0,.slice none 0 0])
 | _=>undef
def CB:Value->Value
 | .tuple xs=>xs.getD 0 undef
 | _=>undef
def Fg:Value->Value
 | .tuple xs=>xs.getD 1 undef
 | _=>undef
def eM(g n cap q:Nat)(fA:Option Addr)(fn fc cb:Nat)(xf xt:Int)(e12:Value)(e13:Value)(i:Nat):Value:=[.slice (some ⟨g,0,none⟩) n cap,.int .i64 (q:Nat),.slice (some ⟨g,0,none⟩) n cap,.int .i64 (q:Nat),.pointer (some ⟨g,q * 8,none⟩),.pointer (some ⟨g,q * 8+6,none⟩),.slice fA fn fc,.pointer (some ⟨cb,1,none⟩),.int .i64 xf,.pointer (some ⟨cb,2,none⟩),.int .i64 xt,.agg #[.int .i64 xf,.int .i64 xt],e12,e13,.pointer (some ⟨g,q * 8,none⟩),.pointer (some ⟨g,q * 8+6,none⟩),undef].getD i undef
def eC(i:Nat):Nat:=[62,63,64,65,66,67,68,69,70,71,72,73,74,75,76,77,0].getD i 0
def xi:List Nat:=[0,1,2,3,4,5,6,7,8,9,10,11,14,15,12,13].map eC
theorem kf:∀ i∈[0,1,2,3,4,5,6,7,8,9,10,11,14,15,12,13],eC i<101/\eC i∈xi:=by decide
theorem qV:∀ i∈[0,1,2,3,4,5,6,7,8,9,10,11,14,15,12,13],∀ j∈[0,1,2,3,4,5,6,7,8,9,10,11,14,15,12,13],j≠i->eC i≠eC j:=by decide
def jb(oA:Option Addr)(m oc:Nat)(z ss:ByteArray)(sty slf:Int)(dA:Option Addr)(dn dc:Nat)(gA:Option Addr)(gn gc:Nat)(e3:Value)(e5:Value)(e6:Value)(i:Nat):Value:=[.slice oA m oc,.string z,.agg #[.string ss,.int .i64 sty,.int .i64 slf,.slice dA dn dc,.slice gA gn gc],e3,za z e3,e5,e6,undef].getD i undef
def io(i:Nat):Nat:=[52,53,54,55,56,57,58,0].getD i 0
def CA:List Nat:=[0,1,2,4,3,5,6].map io
theorem oO:∀ i∈[0,1,2,4,3,5,6],io i<101/\io i∈CA:=by decide
theorem xg:∀ i∈[0,1,2,4,3,5,6],∀ j∈[0,1,2,4,3,5,6],j≠i->io i≠io j:=by decide
def nO(g n cap q:Nat)(fA:Option Addr)(fn fc:Nat)(e7:Value)(i:Nat):Value:=[.slice (some ⟨g,0,none⟩) n cap,.int .i64 (q:Nat),.slice (some ⟨g,0,none⟩) n cap,.int .i64 (q:Nat),.pointer (some ⟨g,q * 8,none⟩),.pointer (some ⟨g,q * 8+6,none⟩),.slice fA fn fc,e7,e7,CB e7,Fg e7,.pointer (some ⟨g,q * 8,none⟩),.pointer (some ⟨g,q * 8+6,none⟩),undef].getD i undef
def mg(i:Nat):Nat:=[87,88,89,90,91,92,93,94,86,95,96,97,98,0].getD i 0
def Kz:List Nat:=[0,1,2,3,4,5,6,8,9,10,11,12,7].map mg
theorem y9:∀ i∈[0,1,2,3,4,5,6,8,9,10,11,12,7],mg i<101/\mg i∈Kz:=by decide
theorem Ff:∀ i∈[0,1,2,3,4,5,6,8,9,10,11,12,7],∀ j∈[0,1,2,3,4,5,6,8,9,10,11,12,7],j≠i->mg i≠mg j:=by decide
def psP(PP:List (Np.Span×Np.Signed))(sp:Np.Span)(sets:List Np.Signed)(j:Nat):List (Np.Span×Np.Signed):=PP++(sets.take j).map λs=>(sp,s)
theorem apK(PP:List (Np.Span×Np.Signed))(sp:Np.Span)(sets:List Np.Signed):psP PP sp sets 0=PP:=by simp[psP]
theorem aoY{PP:List (Np.Span×Np.Signed)}{sp:Np.Span}{sets:List Np.Signed}{j:Nat}(h:sets.length=j):psP PP sp sets j=PP++sets.map λs=>(sp,s):=by unfold psP; rw[kQ (by omega)]
theorem apJ{PP:List (Np.Span×Np.Signed)}{sp:Np.Span}{sets:List Np.Signed}{j:Nat}{x:Np.Signed}(h:sets[j]?=some x):psP PP sp sets (j+1)=psP PP sp sets j ++ [(sp,x)]:=by
 obtain⟨hl,he⟩:=cQ.1 h;unfold psP;rw[fQ hl,he,List.map_append,List.append_assoc];rfl
theorem apZ{PP:List (Np.Span×Np.Signed)}{sp:Np.Span}{sets:List Np.Signed}{j:Nat}{p:Np.Span×Np.Signed}(h:p∈psP PP sp sets j):p∈PP++sets.map λs=>(sp,s):=by
 rcases List.mem_append.1 h with h | h
 ·exact List.mem_append.2 (.inl h)
 ·obtain⟨s,hs,rfl⟩:=List.mem_map.1 h;exact List.mem_append.2 (.inr (List.mem_map.2 ⟨s,List.mem_of_mem_take hs,rfl⟩))
theorem apQ(PP:List (Np.Span×Np.Signed))(sp:Np.Span)(sets:List Np.Signed)(j:Nat):(psP PP sp sets j).length<=(PP++sets.map λs=>(sp,s)).length:=by
 unfold psP;simp only[List.length_append,List.length_map,List.length_take];omega
theorem aoX{a b:List (CV×Np.Copy)}(h:a <+: b):∃ c,((b.map (·.2)).flatMap Np.oN)=((a.map (·.2)).flatMap Np.oN)++c:=by
 obtain⟨c,rfl⟩:=h;exact⟨(c.map (·.2)).flatMap Np.oN,by rw[List.map_append,List.flatMap_append]⟩
def Du(w6:World)(bo bt bm:Nat)(zn:ByteArray)(pre:List (CV×Np.Copy))(S:Nat->Prop)(W:World):Prop:=
 ∃ (xs:List PT) (ov:Value) (M:Nat->Prop),S bo/\S bt/\S bm/\(∀ k,tm xs ov k->S k)/\(∀ k,S k->k=bo\/k=bt\/k=bm\/w6.heap.size<=k)/\(∀ k,¬ S k->M k)/\M bo/\M bt/\M bm/\
   Boxed W bo 43 ov/\Boxed W bt 4 (.bool (!pre.isEmpty))/\dM bm (Np.nL (xs.map (·.1))) W/\PubR w6.heap.size M zn xs ov W/\xs.map (λx=>(x.1,x.2.1))=Np.ew ((pre.map (·.2)).flatMap Np.oN)/\RdStep (λk=>k=bo\/k=bt\/k=bm) w6 W
theorem QM(w6:World)(bo bt bm:Nat)(zn:ByteArray):fE w6.heap.size (Du w6 bo bt bm zn):=by
 rintro pre S W W' ⟨xs,ov,M,h1,h2,h3,h4,h5,h6,m1,m2,m3,h7,h8,h9,ou,tv,tw⟩ aq;refine⟨xs,ov,M,h1,h2,h3,h4,h5,h6,m1,m2,m3,ko h7 aq h1,ko h8 aq h2,h9.stays (aq.keep bm h9.lt (.inr h3)),?_,tv,⟨aq.os.trans tw.os,aq.tape.trans tw.tape,aq.output.trans tw.output,yQ tw.size aq.size,λk hk JE=>(aq.keep k (lQ hk tw.size) (.inl hk)).trans (tw.keep k hk JE)⟩⟩;exact ou.leaves ⟨aq.os,aq.tape,aq.output,aq.size,λi hi hm=>⟨hm,aq.keep i hi (.inr (Classical.byContradiction λhs=>hm (h6 i hs)))⟩⟩ (λg hg=>⟨aq.keep g (ou.lt hg).2.1 (.inr (h4 g hg)),(ou.lt hg).2.2⟩)
theorem apY{w6:World}{bo bt bm:Nat}{zn:ByteArray}{pre:List (CV×Np.Copy)}{S:Nat->Prop}{W W':World}(h:Du w6 bo bt bm zn pre S W)(hb:Below W.heap.size W W'):Du w6 bo bt bm zn pre S W':=by
 obtain⟨xs,ov,M,h1,h2,h3,h4,h5,h6,m1,m2,m3,h7,h8,h9,ou,tv,tw⟩:=h;exact⟨xs,ov,M,h1,h2,h3,h4,h5,h6,m1,m2,m3,eP h7 hb h7.lt,eP h8 hb h8.lt,h9.keep hb h9.lt,ou.keep hb,tv,tw.then_below hb⟩
theorem Nm{w:World}{B:Nat}{L:List (CV×Np.Copy)}(h:∀ x∈L,CVOf w B x.1 x.2)(z:List UInt8):((L.filter λx=>x.1.str.data.toList == z).map (·.2)).flatMap Np.oN=Np.dt (L.map (·.2)) z:=by
 unfold Np.dt Np.nj;congr 1
 induction L with
 | nil=>rfl
 | cons x L ih=>
  have hx:=h x (by simp);have ih:=ih (λy hy=>h y (mQ _ hy));rw[List.map_cons,List.filter_cons,List.filter_cons,hx.apex];split
  ·rw[List.map_cons,ih]
  ·exact ih
theorem asJ(e:List Value)(h:Np.Hist)(hf:Np.sR h)(Py:Np.lj h)(z:ByteArray)(hz:z.size<=140737488355328)(hp:(Np.dt h.copies z.data.toList).length<=5000)(w:World)(hR:iS w w.heap.size)(hP:iC w)(hh:bA w w.heap.size e h) :
 Calls prog 20 #[.agg e.toArray,.string z] w λe w'=>((¬ Np.jP h z.data.toList/\e = .returned (.tuple #[.slice none 0 0,.int .i64 1]))\/(Np.jP h z.data.toList/\((¬ Np.mA h z.data.toList/\e = .returned (.tuple #[.slice none 0 0,.int .i64 4]))\/(Np.mA h z.data.toList/\∃ v',e = .returned (.tuple #[v',.int .i64 0])/\fI oh 8 0 w.heap.size w' v' (Np.pub h.copies z.data.toList)))))/\Below w.heap.size w w':=by
 have pd:=jq hh;obtain⟨hv,cv,s,dv,dh,rfl,aX,eW,h3,h4,h5,h6⟩:=hh;obtain⟨ty,dK⟩:∃ ty,h.anchor.type=ty:=⟨_,rfl⟩;obtain⟨life,pF⟩:∃ life,h.anchor.life=life:=⟨_,rfl⟩;obtain⟨drift,tI⟩:∃ drift,h.drift=drift:=⟨_,rfl⟩;obtain⟨stop,gR⟩:∃ stop,h.stop=stop:=⟨_,rfl⟩;have H3:=jq h3;have H4:=jq h4;have H5:=jq h5;have H6:=jq h6;have HS:=jq (And.intro aX eW);have en:=jq hf;have cI:=jq gR;have gY:=jq (And.intro dK pF);obtain⟨A1,c1,rfl,_,_⟩:=ah h3;obtain⟨A2,c2,rfl,_,_⟩:=ah h4;obtain⟨A3,c3,rfl,_,_⟩:=ah h5;obtain⟨A4,c4,rfl,_,_⟩:=ah h6;clear h3 h4 h5 h6 aX eW hf;obtain⟨n1,aO⟩:∃ n,h.hosts.length=n:=⟨_,rfl⟩;obtain⟨n2,be⟩:∃ n,h.copies.length=n:=⟨_,rfl⟩;obtain⟨n3,cP⟩:∃ n,h.anchor.data.length=n:=⟨_,rfl⟩;obtain⟨n4,cW⟩:∃ n,h.hints.length=n:=⟨_,rfl⟩;rw[aO] at H3;rw[be] at H4;rw[cP] at H5;rw[cW] at H6;rw[aO,be,cP,cW,dK,pF,tI,gR] at pd |-;have iB:=jq be;clear aO be cP cW dK pF tI gR;obtain⟨r,hr⟩:∃ r,Np.yes (Np.VHist h)=r:=⟨_,rfl⟩;have lO:=jq hr;clear hr;obtain⟨X,hX⟩:∃ X,w.heap.size=X:=⟨_,rfl⟩;obtain⟨W1,ai⟩:∃ W1,(((w.alloc (.cells #[.slice A1 n1 c1,.slice A2 n2 c2,.string s,.int .i64 ty,.int .i64 life,.slice A3 n3 c3,.slice A4 n4 c4,.int .i64 drift,.int .i64 stop] 29)).alloc (.cells #[.string z] 9)).alloc (.cells #[.slice none 0 0] 43)).alloc (.cells #[.int .i64 0] 35)=W1:=⟨_,rfl⟩;have aG:Below w.heap.size w W1:=by rw[<-ai]; exact ((((vQ _ _).alloc (bQ _) _).alloc (by simp <;> omega) _).alloc (by simp <;> omega) _).alloc (by simp <;> omega) _
 have jA:W1.heap.size=X+4:=by rw[<-ai,<-hX]; simp
 have k0:W1.cell? ⟨X,0,none⟩=some (.slice A1 n1 c1):=by rw[<-ai,<-hX]; simp[go_sem]
 have k1:W1.cell? ⟨X,1,none⟩=some (.slice A2 n2 c2):=by rw[<-ai,<-hX]; simp[go_sem]
 have k2:W1.cell? ⟨X,2,none⟩=some (.string s):=by rw[<-ai,<-hX]; simp[go_sem]
 have k3:W1.cell? ⟨X,3,none⟩=some (.int .i64 ty):=by rw[<-ai,<-hX]; simp[go_sem]
 have k4:W1.cell? ⟨X,4,none⟩=some (.int .i64 life):=by rw[<-ai,<-hX]; simp[go_sem]
 have k5:W1.cell? ⟨X,5,none⟩=some (.slice A3 n3 c3):=by rw[<-ai,<-hX]; simp[go_sem]
 have k6:W1.cell? ⟨X,6,none⟩=some (.slice A4 n4 c4):=by rw[<-ai,<-hX]; simp[go_sem]
 have k7:W1.cell? ⟨X,7,none⟩=some (.int .i64 drift):=by rw[<-ai,<-hX]; simp[go_sem]
 have k8:W1.cell? ⟨X,8,none⟩=some (.int .i64 stop):=by rw[<-ai,<-hX]; simp[go_sem]
 have kz:W1.cell? ⟨X+1,0,none⟩=some (.string z):=by rw[<-ai,<-hX]; simp[go_sem]
 have HO:Hid (Boxed W1 (X+1+1) 43 (.slice none 0 0)):=jq (by
  rw[<-ai,<-hX]
  have:=(Boxed.new ((w.alloc (.cells #[.slice A1 n1 c1,.slice A2 n2 c2,.string s,.int .i64 ty,.int .i64 life,.slice A3 n3 c3,.slice A4 n4 c4,.int .i64 drift,.int .i64 stop] 29)).alloc (.cells #[.string z] 9)) 43 (.slice none 0 0)).alloc (.cells #[.int .i64 0] 35)
  simpa using this)
 have HE:Hid (Boxed W1 (X+1+1+1) 35 (.int .i64 0)):=jq (by
  rw[<-ai,<-hX]
  have:=Boxed.new (((w.alloc (.cells #[.slice A1 n1 c1,.slice A2 n2 c2,.string s,.int .i64 ty,.int .i64 life,.slice A3 n3 c3,.slice A4 n4 c4,.int .i64 drift,.int .i64 stop] 29)).alloc (.cells #[.string z] 9)).alloc (.cells #[.slice none 0 0] 43)) 35 (.int .i64 0)
  simpa using this)
 have f9:=jq hR;have qk:=jq hP;have Hq:=jq Py;have lc:=jq hp;have zO:Hid (2<w.heap.size):=jq hP.lt;rw[hX] at aG H3 H4 H5 H6 pd f9 zO |-;have aB:=jq aG;clear aG hR hP Py hp;refine (callsIn_wide (n:=0)).1 ?_;refine callsIn_of_wp_marks func20 rfl trivial ?_ rfl;simp only[ntmps20,List.size_toArray,List.length_cons,List.length_nil,Nat.reduceAdd,Nat.reduceSub,Array.replicate_succ,Array.replicate_zero,List.push_toArray,List.append_toArray,List.nil_append,List.cons_append];gi_wp2_with fail;refine⟨trivial,rfl,?_⟩;refine (callsIn_wide.2 (Er _ h en.out W1 ((f9.out.keep aB.out).more (by omega)) (de _ _ _ _ _ (da _ _ _ _ _ pd.out aB.out) (by omega)))).mono ?_;rw[lO.out];rintro e w2 ⟨rfl,ab⟩;have aM:=ab.size;have m0:=(cl ab (by omega)).trans k0;have m1:=(cl ab (by omega)).trans k1;have m2:=(cl ab (by omega)).trans k2;have m3:=(cl ab (by omega)).trans k3;have m4:=(cl ab (by omega)).trans k4;have m5:=(cl ab (by omega)).trans k5;have m6:=(cl ab (by omega)).trans k6;have m7:=(cl ab (by omega)).trans k7;have m8:=(cl ab (by omega)).trans k8;have mz:=(cl ab (by omega)).trans kz;have bk:Hid (Boxed w2 (X+1+1) 43 (.slice none 0 0)):=jq (eP HO.out ab (by omega));have uM:Hid (Boxed w2 (X+1+1+1) 35 (.int .i64 0)):=jq (eP HE.out ab (by omega));have al:=jq (aB.out.trans (ab.mono (by omega)));clear ab ai hX k0 k1 k2 k3 k4 k5 k6 k7 k8 kz
 cases r with
 | false=>
  have HN:Hid (¬ Np.VHist h):=jq (λh=>by have:=Np.bM h; rw[lO.out] at this; cases this);have y0:=bk.out.cell;have y1:=bk.out.frozen;have z0:=uM.out.cell;have z1:=uM.out.frozen;gi_wp2_with fail;refine⟨trivial,?_⟩;gi_wp2_with fail;obtain⟨W,hW⟩:∃ W,((w2.setCell ⟨X+1+1,0,none⟩ (.slice none 0 0)).setCell ⟨X+1+1+1,0,none⟩ (.int .i64 1))=W:=⟨_,rfl⟩;have ra:Hid (Below X w W):=jq (by rw[<-hW]; exact ((al.out.setCell (p:=⟨X+1+1,0,none⟩) (by dsimp only; omega) _).setCell (p:=⟨X+1+1+1,0,none⟩) (by dsimp only; omega) _));have e0:W.cell? ⟨X+1+1,0,none⟩=some (.slice none 0 0):=by rw[<-hW]; simp[go_sem,y0]
  have e1:W.cell? ⟨X+1+1+1,0,none⟩=some (.int .i64 1):=by rw[<-hW]; simp[go_sem,z0]
  rw[hW];exact nl (v:=.tuple #[.slice none 0 0,.int .i64 1]) (by simp[results,results20,go_sem,e0,e1]) ⟨.inl ⟨λh=>HN.out h.1,rfl⟩,ra.out⟩
 | true=>
  have HV:Hid (Np.VHist h):=jq (Np.fz.1 lO.out);gi_wp2_with fail;refine⟨trivial,rfl,?_⟩;refine (callsIn_wide.2 (nameValid_any z hz _)).mono ?_;rintro e w3 ⟨rfl,ag⟩;have er:=ag.size;replace m0:=(cl ag (by omega)).trans m0;replace m1:=(cl ag (by omega)).trans m1;replace m2:=(cl ag (by omega)).trans m2;replace m3:=(cl ag (by omega)).trans m3;replace m4:=(cl ag (by omega)).trans m4;replace m5:=(cl ag (by omega)).trans m5;replace m6:=(cl ag (by omega)).trans m6;replace m7:=(cl ag (by omega)).trans m7;replace m8:=(cl ag (by omega)).trans m8;replace mz:=(cl ag (by omega)).trans mz;have lL:Hid (Boxed w3 (X+1+1) 43 (.slice none 0 0)):=jq (eP bk.out ag (by omega));have Gq:Hid (Boxed w3 (X+1+1+1) 35 (.int .i64 0)):=jq (eP uM.out ag (by omega));have ar:=jq (al.out.trans (ag.mono (by omega)));clear ag
  cases eq:Np.aD z.data.toList with
  | false=>
   have jk:=jq eq;clear eq;have y0:=lL.out.cell;have y1:=lL.out.frozen;have z0:=Gq.out.cell;have z1:=Gq.out.frozen;gi_wp2_with fail;obtain⟨W,hW⟩:∃ W,((w3.setCell ⟨X+1+1,0,none⟩ (.slice none 0 0)).setCell ⟨X+1+1+1,0,none⟩ (.int .i64 1))=W:=⟨_,rfl⟩;have ra:Hid (Below X w W):=jq (by rw[<-hW]; exact ((ar.out.setCell (p:=⟨X+1+1,0,none⟩) (by dsimp only; omega) _).setCell (p:=⟨X+1+1+1,0,none⟩) (by dsimp only; omega) _));have e0:W.cell? ⟨X+1+1,0,none⟩=some (.slice none 0 0):=by rw[<-hW]; simp[go_sem,y0]
   have e1:W.cell? ⟨X+1+1+1,0,none⟩=some (.int .i64 1):=by rw[<-hW]; simp[go_sem,z0]
   rw[hW];exact nl (v:=.tuple #[.slice none 0 0,.int .i64 1]) (by simp[results,results20,go_sem,e0,e1]) ⟨.inl ⟨λh=>absurd h.2 (by rw[jk.out]; simp),rfl⟩,ra.out⟩
  | true=>
   have jk:=jq eq;have bR:Hid (Np.jP h z.data.toList):=jq ⟨HV.out,eq⟩;clear eq;have hX4:X+4<=w3.heap.size:=by omega
   have wL:∀ (w:World),(Instr.makeMap 121 none).run prog w = .ok (.map (some w.heap.size)) (w.alloc (.map #[] 0)):=λw=>by
    simp[Instr.makeMap,Result.andThen]
   obtain⟨Bh,rK⟩:∃ Bh,w3.heap.size=Bh:=⟨_,rfl⟩;obtain⟨w4,bE⟩:∃ w4,(((w3.alloc (.cells #[.slice none 0 0] 43)).alloc (.cells #[.bool false] 4)).alloc (.map #[] 0)).alloc (.cells #[.map (some (Bh+1+1))] 121)=w4:=⟨_,rfl⟩;have an:Below w3.heap.size w3 w4:=by rw[<-bE]; exact ((((vQ _ _).alloc (bQ _) _).alloc (by simp) _).alloc (by simp <;> omega) _).alloc (by simp <;> omega) _
   have gC:w4.heap.size=Bh+4:=by rw[<-bE,<-rK]; simp
   have v0:=(cl an (by omega)).trans m0;have v1:=(cl an (by omega)).trans m1;have v2:=(cl an (by omega)).trans m2;have v3:=(cl an (by omega)).trans m3;have v4:=(cl an (by omega)).trans m4;have v5:=(cl an (by omega)).trans m5;have v6:=(cl an (by omega)).trans m6;have v7:=(cl an (by omega)).trans m7;have v8:=(cl an (by omega)).trans m8;have vz:=(cl an (by omega)).trans mz;have xR:Hid (Boxed w4 (X+1+1) 43 (.slice none 0 0)):=jq (eP lL.out an (by omega));have S9:Hid (Boxed w4 (X+1+1+1) 35 (.int .i64 0)):=jq (eP Gq.out an (by omega));have bq:=jq (ar.out.trans (an.mono (by omega)));have Sv:Hid (Boxed w4 Bh 43 (.slice none 0 0)):=jq (by
    rw[<-bE,<-rK];exact (((Boxed.new w3 43 (.slice none 0 0)).alloc _).alloc _).alloc _)
   have Sy:Hid (Boxed w4 (Bh+1) 4 (.bool false)):=jq (by
    rw[<-bE,<-rK]
    have:=((Boxed.new (w3.alloc (.cells #[.slice none 0 0] 43)) 4 (.bool false)).alloc (.map #[] 0)).alloc (.cells #[.map (some (w3.heap.size+1+1))] 121)
    simpa using this)
   have Ss:Hid (dM (Bh+1+1) [] w4):=jq (by
    rw[<-bE,<-rK]
    have:=(dM.made ((w3.alloc (.cells #[.slice none 0 0] 43)).alloc (.cells #[.bool false] 4))).stays (w':=((((w3.alloc (.cells #[.slice none 0 0] 43)).alloc (.cells #[.bool false] 4)).alloc (.map #[] 0)).alloc (.cells #[.map (some (w3.heap.size+1+1))] 121))) (Below.heap_alloc _ _ _ (by simp))
    simpa using this)
   have Ga:Hid (Boxed w4 (Bh+1+1+1) 121 (.map (some (Bh+1+1)))):=jq (by
    rw[<-bE,<-rK]
    have:=Boxed.new (((w3.alloc (.cells #[.slice none 0 0] 43)).alloc (.cells #[.bool false] 4)).alloc (.map #[] 0)) 121 (.map (some (w3.heap.size+1+1)))
    simpa using this)
   clear m0 m1 m2 m3 m4 m5 m6 m7 m8 mz;gi_wp2_with fail;clear wL an;refine⟨trivial,rfl,?_⟩;refine (callsIn_wide.2 (Io _ _ _ _ _ _ _ _ _ 64 #[.pointer (some ⟨X+1,0,none⟩)] w4)).mono ?_;rintro e w6 ⟨rfl,bK⟩;have il:w6.heap.size=Bh+6:=by rw[bK]; simp; omega
   have aU:Below w4.heap.size w4 w6:=by rw[bK]; exact ((vQ _ _).alloc (bQ _) _).alloc (by simp) _
   have kX:w6.cell? ⟨Bh+4,1,none⟩=some (.slice A2 n2 c2):=by rw[bK,<-gC]; simp[go_sem]
   have kO:w6.cell? ⟨Bh+4+1,0,none⟩=some (.func (.func 64) #[] #[.pointer (some ⟨X+1,0,none⟩)]):=by rw[bK,show Bh+4+1=w4.heap.size+1 by omega]; simp[go_sem]
   rw[gC];obtain⟨L,g9,pr,oy⟩:=It (H4.out.keep fu (bq.out.trans (aU.mono (by omega))));have mX:=jq ((cl aU (by omega)).trans vz);have zT:=jq (Ip L (λx=>x.1.str.data.toList == z.data.toList) 64 #[.pointer (some ⟨X+1,0,none⟩)] (Bh+4) (Bh+4+1) n2 c2 (λk=>k<w6.heap.size/\¬ (k=Bh\/k=Bh+1\/k=Bh+1+1)) A2 w6 ⟨by omega,by omega⟩ ⟨by omega,by omega⟩ kX kO pr (by have:=en.out.1; have:=iB.out; omega)
    (λi x hx=>by
      obtain⟨_,b,o,h1,h2,h3⟩:=oy i x hx;exact⟨b,o,h1,⟨by omega,by omega⟩,h3⟩) Wp
    (λx hx W hW=>by
      have h1:=(hW.cell (p:=⟨X+1,0,none⟩) ⟨by dsimp only; omega,by dsimp only; omega⟩).trans mX.out
      have:=hW.1
      exact apX x.1.host x.1.frm x.1.til x.1.str _ x.1.A x.1.n x.1.c rfl (X+1) z W (by omega) h1))
   have G8:Hid (Boxed w6 (X+1+1) 43 (.slice none 0 0)):=jq (eP xR.out aU (by omega));have Ta:Hid (Boxed w6 (X+1+1+1) 35 (.int .i64 0)):=jq (eP S9.out aU (by omega));have Sw:Hid (Boxed w6 Bh 43 (.slice none 0 0)):=jq (eP Sv.out aU (by omega));have Sz:Hid (Boxed w6 (Bh+1) 4 (.bool false)):=jq (eP Sy.out aU (by omega));have St:Hid (dM (Bh+1+1) [] w6):=jq (Ss.out.keep aU (by omega));have Gb:Hid (Boxed w6 (Bh+1+1+1) 121 (.map (some (Bh+1+1)))):=jq (eP Ga.out aU (by omega));have ca:=jq (bq.out.trans (aU.mono (by omega)));have la:=jq g9;have mu:Hid (∀ x∈L,CVOf w6 X x.1 x.2):=jq (λx hx=>by obtain⟨i,hi⟩:=List.mem_iff_getElem?.1 hx; exact (oy i x hi).1);clear aU bK bE kX kO g9 oy v0 v1 v2 v3 v4 v5 v6 v7 v8 vz;have ML:=jq il;gi_wp2_with fail;refine Lh (Dr:=λk=>k<w6.heap.size/\¬ (k=Bh\/k=Bh+1\/k=Bh+1+1)) (w0:=w6) (first:=#[]) (captured:=#[.pointer (some ⟨Bh+4,0,none⟩),.pointer (some ⟨Bh+4+1,0,none⟩)]) (gf:=91) rfl Iw (mk:=λy=>#[y,.pointer (some ⟨Bh+4,0,none⟩),.pointer (some ⟨Bh+4+1,0,none⟩)]) (λ_=>rfl)
    zT.out (fL.refl λk e=>e.1) (λ_=>rfl) (Du w6 Bh (Bh+1) (Bh+1+1) z) (λ_ _ _ _=>False)
    (QM _ _ _ _ _) (λc s S W W' h _=>h)
    (λk=>k=Bh\/k=Bh+1\/k=Bh+1+1) (λk h1 h2=>h2.2 h1) (by intro k h; omega)
    ⟨[],.slice none 0 0,λk=>k=Bh\/k=Bh+1\/k=Bh+1+1\/¬ (k=Bh\/k=Bh+1\/k=Bh+1+1),.inl rfl,.inr (.inl rfl),.inr (.inr rfl),(λk e=>by rcases e with e | ⟨x,hx,_⟩; cases e; cases hx),(λk e=>by omega),(λk e=>.inr (.inr (.inr e))),.inl rfl,.inr (.inl rfl),.inr (.inr (.inl rfl)),Sw.out,Sz.out,St.out,PubR.nil _ _ _ _,rfl,RdStep.refl _ _⟩ ?round ?done ?stop
   case stop=>
    rintro D c pre S W hD gu bD iJ h hK;exact h.elim
   case done=>
    rintro D S W hD gu bD ⟨us,ov,M,Eb,Bn,Ea,hown,pu,Bm,mbo,mbt,mbm,tF,rO,tE,yk,yD,bd⟩ hK;obtain⟨te,JW⟩:∃ te,(L.filter λx=>x.1.str.data.toList == z.data.toList).isEmpty=te:=⟨_,rfl⟩;have LS:Hid (Np.mA h z.data.toList↔te=false):=jq (by
     rw[<-JW,List.isEmpty_eq_false_iff_exists_mem];constructor
     ·rintro⟨c,hc,hz⟩;rw[<-la.out] at hc;obtain⟨x,hx,rfl⟩:=List.mem_map.1 hc;exact⟨x,List.mem_filter.2 ⟨hx,by rw[(mu.out x hx).apex,hz]; simp⟩⟩
     ·rintro⟨x,hx⟩;obtain⟨h1,h2⟩:=List.mem_filter.1 hx;refine⟨x.2,by rw[<-la.out]; exact List.mem_map.2 ⟨x,h1,rfl⟩,?_⟩;rw[<-(mu.out x h1).apex];simpa using h2)
    rw[JW] at rO;have lK:Hid (us.map (λx=>(x.1,x.2.1))=Np.ew (Np.dt h.copies z.data.toList)):=jq (by rw[yD,Nm mu.out,la.out]);have ym:=bd.size;have LI:Hid (D<W.heap.size):=jq (eQ.1 hK).1;have rJ:Below X w6 W:=bd.below (by omega) (λk e=>by omega);have LD:Hid (Below X w W):=jq (ca.out.trans (rJ.mono (by omega)));have gm:Hid (Boxed W (X+1+1) 43 (.slice none 0 0)):=jq ((bd.keep (X+1+1) (by omega) (by omega)).trans G8.out);have lJ:Hid (Boxed W (X+1+1+1) 35 (.int .i64 0)):=jq ((bd.keep (X+1+1+1) (by omega) (by omega)).trans Ta.out);have F6:=jq tF;have ry:=jq gu;have eO:=jq pu;have C9:=jq hK;have Hc:=jq (PubK.start yk Bm hown);have t0:=rO.cell;clear JW yD bd rJ tF rO tE yk Bm hown pu gu hK mbo mbt mbm Eb Bn Ea bD;have oz:X+1+1≠D:=by omega
    have D5:X+1+1+1≠D:=by omega
    cases te with
    | true=>
     simp only[Bool.not_true] at t0;have o0:=gm.out.cell;have o1:=gm.out.frozen;have q0:=lJ.out.cell;have q1:=lJ.out.frozen;gi_wp2_with fail;obtain⟨W',hW'⟩:∃ W',((W.setCell ⟨X+1+1,0,none⟩ (.slice none 0 0)).setCell ⟨X+1+1+1,0,none⟩ (.int .i64 4))=W':=⟨_,rfl⟩;have pT:W'.heap.size=W.heap.size:=by rw[<-hW']; simp
     have gN:∀ k,k≠X+1+1->k≠X+1+1+1->W'.heap[k]?=W.heap[k]?:=λk h1 h2=>by rw[<-hW']; exact (wQ _ _ _ k h2).trans (wQ _ _ _ k h1)
     have Be:Below X w W':=by rw[<-hW']; exact ((LD.out.setCell (p:=⟨X+1+1,0,none⟩) (by dsimp only; omega) _).setCell (p:=⟨X+1+1+1,0,none⟩) (by dsimp only; omega) _)
     have ij:W'.os=W.os/\W'.tape=W.tape/\W'.output=W.output:=by rw[<-hW']; simp[World.setCell]
     have Bi:W'.heap[D]?=some (.deferred (some [])):=(gN D (Ne.symm oz) (Ne.symm D5)).trans C9.out;have e0:W'.cell? ⟨X+1+1,0,none⟩=some (.slice none 0 0):=by rw[<-hW']; simp[go_sem,o0]
     have e1:W'.cell? ⟨X+1+1+1,0,none⟩=some (.int .i64 4):=by rw[<-hW']; simp[go_sem,q0]
     have f0:=(iQ (w:=W') (w':=W'.putObj D (.deferred none)) (a:=⟨X+1+1,0,none⟩) (zQ oz)).trans e0;have f1:=(iQ (w:=W') (w':=W'.putObj D (.deferred none)) (a:=⟨X+1+1+1,0,none⟩) (zQ D5)).trans e1;rw[hW'];refine po Bi (v:=.tuple #[.slice none 0 0,.int .i64 4]) (by simp[results,results20,go_sem,f0,f1]) ⟨.inr ⟨bR.out,.inl ⟨(λh=>by have:=LS.out.1 h; cases this),rfl⟩⟩,pm Be (by omega) _⟩
    | false=>
     simp only[Bool.not_false] at t0;obtain⟨n,hn⟩:∃ n,us.length=n:=⟨_,rfl⟩;obtain⟨oA,oc,rfl⟩:=Hc.out.rows.row.formN hn;have L9:=jq hn;have b0:=F6.out.cell;obtain⟨PS,D7⟩:∃ PS,Np.dt h.copies z.data.toList=PS:=⟨_,rfl⟩;have rv:=jq D7;rw[D7] at lK;have s9:Hid ((Np.ew PS).length=n):=jq (by rw[<-lK.out,List.length_map]; exact hn);have O9:n<=5000:=by rw[<-hn]; have h1:=Qv lK.out; have h2:=lc.out; rw[D7] at h2; omega
     clear hn D7;gi_wp2_with fail;gi_loopw [83] (λI wr=>∃ (i:Nat) (us':List PT) (ov':Value) (M':Nat->Prop),i<=n/\I = .int .i64 i/\W.heap.size<=wr.heap.size/\Hid (us'.length=n)/\Hid (Boxed wr Bh 43 ov')/\Hid (PubK S W w6.heap.size z M' us' ov' wr)/\Hid (us'.map (λx=>(x.1,x.2.1))=qT (Np.ew PS) i)) (λI _=>n - (intOf I).toNat)
     case atStart=>exact⟨0,us,_,_,jQ _,rfl,bQ _,L9,F6,Hc,jq (by rw[alX]; exact lK.out)⟩
     case round=>
      clear F6 Hc lK L9 b0 t0;obtain⟨i,us',ov',M',hi,rfl,P0,xP,xB,gI,GY⟩:=hrel;by_cases aa:i<n
      ·obtain⟨g,cap,rfl,eI,Ep,wu⟩:=gI.out.rows.row.formSome xP.out (by omega);have LW:Hid (i<(Np.ew PS).length):=jq (by rw[s9.out]; exact aa);obtain⟨⟨xs,xt,xv⟩,hx,hl⟩:=QC GY.out LW.out;dsimp only at hl;have Cj:=Np.Qw hl;have t6:aK w6.heap.size wr xv xt:=gI.out.rows.fresh _ (gQ hx);have LM:Hid (SlR fk 2 wr wr.heap.size xv xt):=jq (t6.slr (by have h1:=Np.KZ PS xs; rw[<-Cj] at h1; have h2:=lc.out; rw[rv.out] at h2; omega));have Uy:Hid (∀ s∈xt,Np.Dw s):=jq (λs hs=>Np.arY (h:=h) (zone:=z.data.toList) (s:=xs) (by rw[rv.out,<-Cj]; exact hs) HV.out);have UF:Hid (xt.length<=20000):=jq (by have h1:=Np.KZ PS xs; rw[<-Cj] at h1; have h2:=lc.out; rw[rv.out] at h2; omega);have HX:=jq hx;obtain⟨fA,fc,rfl⟩:=aK.form t6;have f6:wr.cell? ⟨g,i * 8+6,none⟩=some (.slice fA xt.length fc):=Jn gI.out.rows.row hx;obtain⟨fn,jt⟩:∃ fn,xt.length=fn:=⟨_,rfl⟩;rw[jt] at f6 HX LM;have b6:=xB.out.cell;have oI:(0:Int)<=(i:Int):=by omega
       have kG:(i:Int)<(n:Int):=by omega
       clear hx hl Cj t6 jt wu;gi_wp2_with fail;refine zr λa0 bW=>?_;have lH:=jq bW;have gW:=jq (show a0.eval (.tmp 6) = .pointer (some ⟨Bh,0,none⟩) by rw[bW]; rfl);have Lm:=jq (show a0.eval (.tmp 15) = .int .i64 (i:Nat) by rw[bW]; rfl);have HM:=jq (show a0.tmps.size=101 by rw[bW]; rfl);clear bW;refine wpIn_wide.2 (wp_region_any (by kernel_rfl) ?_);refine RY (w:=wr.drew) (D:=[0,1,2,3,4,5,6,11,12]) (A:=[]) (p:=7) (dst:=mg) (val:=nO g n cap i fA fn fc undef) (m:=101)
        (base:=ea a0 101 Kz) (Le (by kernel_rfl)) (by simp) (by simp) (iN (by kernel_rfl)) ?_
        (λi hi=>(y9 i (by simp at hi |-; omega)).1) (λi hi j hj=>Ff i (by simp at hi |-; omega) j (by simp at hj |-; omega)) (λi hi=>dH (y9 i (by simp at hi |-; omega)).2) ?_ ?_ _ _ _ (Held.start (λq hq=>uu q hq) HM.out)
       ·intro i hi aC;simp only[List.mem_cons,Qh,or_false] at hi;rcases hi with rfl | rfl | rfl | rfl | rfl | rfl | rfl | rfl | rfl
        all_goals first | (exfalso; simp at aC; done) | exact⟨_,rfl,rfl⟩
       ·intro i hi aC o ho a' hb bg;have k6':=(bn hb (j:=6) (by decide) (by decide)).trans gW.out;have k15':=(bn hb (j:=15) (by decide) (by decide)).trans Lm.out;simp[Act.eval] at k6' k15';simp only[List.mem_cons,Qh,or_false] at hi;rcases hi with rfl | rfl | rfl | rfl | rfl | rfl | rfl | rfl | rfl
        all_goals first
         | (exfalso; simp at aC; done)
         | (cases ho
            try simp[Act.eval,Region.binds,nO,mg] at bg
            refine .inl ⟨by simp[Region.wanted],λw' hw'=>?_⟩;subst hw';simp[Oper.quietAt,Oper.quietUpon,execOp,go_sem,nO,k6',k15',b6,f6,oI,kG,CB,Fg,bg])
       ·intro f listed a' hH hr;obtain⟨_,o,ho,az⟩:=mem_ready.1 hr
        cases ho
        have hG:=hH.good;have hval:=λi hi hl=>hG.val i hi hl;have b7:∀ k,({ on:=k,ground:=.data } : Edge)∈_->listed.getD k false=true:=λk hk=>az _ hk rfl;have av6:=hval 6 (by simp) (b7 6 (by simp));simp[Act.eval,nO,mg] at av6;simp only[wpOp];simp[Region.wanted];refine .inl ?_;simp[Oper.wp,go_sem,av6];refine (QA _ xt UF.out Uy.out wr.drew (LM.out.keep eZ (vQ wr.heap.size wr).drew)).mono ?_;rintro e wC ⟨v2,rfl,lZ,Bw⟩;have jZ:Below wr.heap.size wr wC:=(vQ wr.heap.size wr).drew.trans Bw;have hzC:=jZ.size;replace b6:=(cl jZ (by omega)).trans b6;replace f6:=(cl jZ (by omega)).trans f6;have rR:=(World.frozen?_of_block (a:=⟨g,i * 8+6,none⟩) (jZ.block g (by omega))).trans (gI.out.rows.row.frozenAt xP.out _);obtain⟨gA,gc,rfl⟩:=aK.form lZ;obtain⟨gn,qD⟩:∃ n,(Np.eL xt).length=n:=⟨_,rfl⟩;rw[qD] at lZ |-;have bk:=jq lZ;have eb:=jq jZ;clear lZ jZ Bw qD;dsimp only;refine RY (w:=wC) (D:=[0,1,2,3,4,5,6,8,9,10,11,12,7]) (A:=[7]) (p:=13) (dst:=mg) (val:=nO g n cap i fA fn fc (.tuple #[.slice gA gn gc,.int .i64 0])) (m:=101)
         (base:=ea a0 101 Kz) (Le (by kernel_rfl)) (by simp) (by simp) (iN (by kernel_rfl)) ?_
         (λi hi=>(y9 i (by simp at hi |-; omega)).1) (λi hi j hj=>Ff i (by simp at hi |-; omega) j (by simp at hj |-; omega)) (λi hi=>dH (y9 i (by simp at hi |-; omega)).2) ?_ ?_ _ _ _ (hH.act (D':=[0,1,2,3,4,5,6,8,9,10,11,12,7]) (val':=nO g n cap i fA fn fc (.tuple #[.slice gA gn gc,.int .i64 0])) hr (by simp) (λi hi=>by simp at hi |-; omega) (λi hi=>by simp at hi; rcases hi with rfl | rfl | rfl | rfl | rfl | rfl | rfl | rfl | rfl <;> rfl) rfl (by simp[mg]) (λj hj=>Ff 7 (by simp) j (by simp at hj |-; omega) (by rintro rfl; simp at hj)) (dH (y9 7 (by simp)).2) (by simp))
        ·intro i hi aC;simp only[List.mem_cons,Qh,or_false] at hi;rcases hi with rfl | rfl | rfl | rfl | rfl | rfl | rfl | rfl | rfl | rfl | rfl | rfl | rfl
         all_goals first | (exfalso; simp at aC; done) | exact⟨_,rfl,rfl⟩
        ·intro i hi aC o ho a' hb bg;have k6':=(bn hb (j:=6) (by decide) (by decide)).trans gW.out;have k15':=(bn hb (j:=15) (by decide) (by decide)).trans Lm.out;simp[Act.eval] at k6' k15';simp only[List.mem_cons,Qh,or_false] at hi;rcases hi with rfl | rfl | rfl | rfl | rfl | rfl | rfl | rfl | rfl | rfl | rfl | rfl | rfl
         all_goals first
          | (exfalso; simp at aC; done)
          | (cases ho
             try simp[Act.eval,Region.binds,nO,mg] at bg
             refine .inl ⟨by simp[Region.wanted],λw' hw'=>?_⟩;subst hw';simp[Oper.quietAt,Oper.quietUpon,execOp,go_sem,nO,k6',k15',b6,f6,oI,kG,CB,Fg,bg])
        ·intro f listed a' hH hr;obtain⟨_,o,ho,az⟩:=mem_ready.1 hr
         cases ho
         have hG:=hH.good;have hval:=λi hi hl=>hG.val i hi hl;have b7:∀ k,({ on:=k,ground:=.data } : Edge)∈_->listed.getD k false=true:=λk hk=>az _ hk rfl;have av9:=hval 9 (by simp) (b7 9 (by simp));have av12:=hval 12 (by simp) (b7 12 (by simp));simp[Act.eval,nO,mg,CB] at av9 av12;simp only[wpOp];simp[Region.wanted];refine .inl ?_;simp[Oper.wp,execOp,go_sem,av9,av12,f6,rR];clear b6 f6 rR;obtain⟨W',hW'⟩:∃ W',wC.setCell ⟨g,i * 8+6,none⟩ (.slice gA gn gc)=W':=⟨_,rfl⟩;have uV:=jq (gI.out.normed xP.out HX.out (ps':=Np.eL xt) eb.out bk.out (by have:=gI.out.rd.size; omega));rw[hW'] at uV |-;have ek:Below w6.heap.size wr W':=by rw[<-hW']; exact (eb.out.mono (by have:=gI.out.rd.size; omega)).setCell (by dsimp only; omega) _
         have sS:Hid (Boxed W' Bh 43 (.slice (some ⟨g,0,none⟩) n cap)):=jq (eP xB.out ek (by omega));clear ek;have Kd:W'.heap.size=wC.heap.size:=by rw[<-hW']; simp[World.setCell]
         refine aOY (R:=[10]) (D:=[0,1,2,3,4,5,6,8,9,10,11,12,7]) (dst:=mg) (val:=nO g n cap i fA fn fc (.tuple #[.slice gA gn gc,.int .i64 0])) (a0:=a0) (m:=101) HM.out (Le (by kernel_rfl)) (by simp) (λi hi=>?_) (λi hi=>by simp at hi; subst hi; exact⟨_,rfl,rfl⟩) (λi hi=>(y9 i hi).1) Ff (λi hi o ho e he hb=>?_) (λi hi o ho a' bg=>?_) ?_ _ _ _ (hH.rest hr (by simp) (by kernel_rfl))
         ·simp at hi |-;omega
         ·simp at hi;subst hi
          cases ho
          simp at he;rcases he with rfl | rfl
          ·simp
          ·simp[Region.binds] at hb
         ·simp at hi;subst hi
          cases ho
          simp[Act.eval,Region.binds,nO,mg] at bg;refine .inl ⟨by simp[Region.wanted],λw' hw'=>?_⟩;subst hw';simp[Oper.quietAt,Oper.quietUpon,execOp,go_sem,nO,CB,Fg,bg]
         ·rw[lH.out];simp[lE,Act.put,nO,mg];clear hval b7 az hG hH;gi_wp2_with fail;go_roundw
          case measure=>simp[intOf] <;> omega
          case rel=>exact⟨i+1,_,_,_,by omega,by go_num,by omega,jq (by rw[List.length_set]; exact xP.out),sS,uV,jq (alK GY.out LW.out HX.out _)⟩
      ·obtain rfl:i=n:=by omega
       obtain⟨oA',oc',rfl⟩:=gI.out.rows.row.formN xP.out;have b0:=xB.out.cell;have Og:¬ S (X+1+1):=λe=>by have:=eO.out _ e; omega
       have N5:¬ S (X+1+1+1):=λe=>by have:=eO.out _ e; omega
       have Df:Hid (Boxed wr (X+1+1) 43 (.slice none 0 0)):=jq ((gI.out.rd.keep (X+1+1) (by omega) Og).trans gm.out);have LK:Hid (Boxed wr (X+1+1+1) 35 (.int .i64 0)):=jq ((gI.out.rd.keep (X+1+1+1) (by omega) N5).trans lJ.out);have rq:Hid (wr.heap[D]?=some (.deferred (some []))):=jq ((gI.out.rd.keep D LI.out ry.out).trans C9.out);have bO:Hid (Below X w wr):=jq (LD.out.trans (gI.out.rd.below (by omega) (λk e=>by have:=eO.out k e; omega)));have o0:=Df.out.cell;have o1:=Df.out.frozen;have q0:=LK.out.cell;have q1:=LK.out.frozen;gi_wp2_with fail;obtain⟨W',hW'⟩:∃ W',((wr.setCell ⟨X+1+1,0,none⟩ (.slice oA' i oc')).setCell ⟨X+1+1+1,0,none⟩ (.int .i64 0))=W':=⟨_,rfl⟩;have pT:W'.heap.size=wr.heap.size:=by rw[<-hW']; simp
       have gN:∀ k,k≠X+1+1->k≠X+1+1+1->W'.heap[k]?=wr.heap[k]?:=λk h1 h2=>by rw[<-hW']; exact (wQ _ _ _ k h2).trans (wQ _ _ _ k h1)
       have Be:Below X w W':=by rw[<-hW']; exact ((bO.out.setCell (p:=⟨X+1+1,0,none⟩) (by dsimp only; omega) _).setCell (p:=⟨X+1+1+1,0,none⟩) (by dsimp only; omega) _)
       have ij:W'.os=wr.os/\W'.tape=wr.tape/\W'.output=wr.output:=by rw[<-hW']; simp[World.setCell]
       have Bi:W'.heap[D]?=some (.deferred (some [])):=(gN D (Ne.symm oz) (Ne.symm D5)).trans rq.out;have e0:W'.cell? ⟨X+1+1,0,none⟩=some (.slice oA' i oc'):=by rw[<-hW']; simp[go_sem,o0]
       have e1:W'.cell? ⟨X+1+1+1,0,none⟩=some (.int .i64 0):=by rw[<-hW']; simp[go_sem,q0]
       have f0:=(iQ (w:=W') (w':=W'.putObj D (.deferred none)) (a:=⟨X+1+1,0,none⟩) (zQ oz)).trans e0;have f1:=(iQ (w:=W') (w':=W'.putObj D (.deferred none)) (a:=⟨X+1+1+1,0,none⟩) (zQ D5)).trans e1;rw[hW'];have yA:∀ k,k≠X+1+1->k≠X+1+1+1->k≠D->(W'.putObj D (.deferred none)).heap[k]?=wr.heap[k]?:=λk h1 h2 h3=>(zQ h3).trans (gN k h1 h2);have yT:(W'.putObj D (.deferred none)).heap.size=wr.heap.size:=by simpa using pT
       have Mh:=jq (gI.out.calm (T:=λk=>k=X+1+1\/k=X+1+1+1\/k=D) (λk e=>by
        rcases e with rfl | rfl | rfl
        ·exact⟨by omega,Og⟩
        ·exact⟨by omega,N5⟩
        ·exact⟨LI.out,ry.out⟩) (w':=W'.putObj D (.deferred none)) ij yT (λk hk=>yA k (λe=>hk (.inl e)) (λe=>hk (.inr (.inl e))) (λe=>hk (.inr (.inr e)))))
       refine po Bi (v:=.tuple #[.slice oA' i oc',.int .i64 0]) (by simp[results,results20,go_sem,f0,f1]) ⟨.inr ⟨bR.out,.inr ⟨(by have h1:=LS.out; simpa using h1),_,rfl,?_⟩⟩,pm Be (by omega) _⟩;intro Mq yh;have ul:=xP.out;have O6:us'.map (λx=>(x.1,x.2.1))=(Np.ew PS).map λx=>(x.1,Np.eL x.2):=by rw[GY.out,alJ s9.out]
       have Zi:(us'.map λx=>(⟨z.data.toList,x.1,x.2.1,[]⟩:Np.Held))=Np.pub h.copies z.data.toList:=by
        have h1:=Qd (List.map λx:Np.Signed×List Np.Span=>(⟨z.data.toList,x.1,x.2,[]⟩:Np.Held)) O6;rw[List.map_map,List.map_map] at h1;refine Eq.trans h1 ?_;rw[<-rv.out];exact (Np.aiZ Np.eL _ _).symm
       rw[<-Zi];exact Mh.out.slr hz (by omega) (λx hx=>by
        have h1:(x.1,x.2.1)∈us'.map (λx=>(x.1,x.2.1)):=List.mem_map.2 ⟨x,hx,rfl⟩;rw[O6] at h1;obtain⟨y,hy,he⟩:=List.mem_map.1 h1;simp only[Prod.mk.injEq] at he;rw[<-he.2];obtain⟨j,hj⟩:=List.mem_iff_getElem?.1 hy;have h2:=Fb y.2;have h3:=Np.KZ PS y.1;rw[<-Np.Qw hj] at h3;have h4:=lc.out;rw[rv.out] at h4;omega) (λk hk=>by
        have h1:=yh k hk;refine⟨gI.out.ex k (by omega) (λe=>by have:=eO.out k e; omega),λe=>by have:=(Mh.out.lt e).1; omega⟩)
   case round=>
    rintro l0 pre ⟨⟨xh,xf,xt,xs,xA,xn,xc⟩,cc⟩ S W ck hI fG;have vt:Hid ((⟨⟨xh,xf,xt,xs,xA,xn,xc⟩,cc⟩:CV×Np.Copy)∈L):=jq ((List.mem_filter.1 (ck.subset (by simp:(⟨⟨xh,xf,xt,xs,xA,xn,xc⟩,cc⟩:CV×Np.Copy)∈_))).1);have lS:=apY hI ((vQ _ W).alloc (bQ _) (.cells #[.int .i64 xh,.int .i64 xf,.int .i64 xt,.string xs,.slice xA xn xc] 58));have ym:w6.heap.size<=W.heap.size:=by obtain⟨_,_,_,_,_,_,_,_,_,_,_,_,_,_,_,_,_,hB⟩:=hI; exact hB.size
    have vd:=jq ck;clear hI ck;gi_wp2;refine⟨λk=>S k\/k=W.heap.size,(RdStep.refl S W).alloc _,λk e=>e.imp id (λh=>by omega),λk e=>by rcases e with e | e; have:=fG k e; simp; omega; simp; omega,?_⟩;intro l W₂ aq;have IN:=QM w6 Bh (Bh+1) (Bh+1+1) z pre S _ W₂ lS (aq.weaken (bQ _) (λk e=>.inl e));have kH:=aq.size;simp only[World.size_alloc] at kH;have gg:W₂.heap[W.heap.size]?=some (.cells #[.int .i64 xh,.int .i64 xf,.int .i64 xt,.string xs,.slice xA xn xc] 58):=(aq.keep W.heap.size (by simp) (.inr (.inr rfl))).trans (heap_alloc_new _ _);obtain⟨us,ov,M,Eb,Bn,Ea,hown,pu,Bm,mbo,mbt,mbm,tF,rO,tE,yk,yD,bd⟩:=IN;have Ux:Hid (∀ k,S k->k<W.heap.size):=jq fG;have eO:=jq pu;have tf:=jq (And.intro Eb (And.intro Bn Ea));have p8:Hid (CVOf w6 X ⟨xh,xf,xt,xs,xA,xn,xc⟩ cc):=jq (mu.out _ vt.out);have rJ:Below X w6 W₂:=bd.below (by omega) (λk e=>by omega);have Sl:=jq (ca.out.trans rJ);have Aj:=jq bd;obtain⟨sets,oK⟩:∃ sets,cc.zone.sets=sets:=⟨_,rfl⟩;have ql:=jq oK;have Ho:Hid (SlR bC 5 W₂ X (.slice xA xn xc) sets):=jq (by have:=(p8.out.keep rJ).sets; rw[oK] at this; exact this);have yP:sets.length=xn:=by rw[<-oK]; exact p8.out.len
    have vu:=jq yP;have tG:cc∈h.copies:=by rw[<-la.out]; exact List.mem_map.2 ⟨_,vt.out,rfl⟩
    have kW:=jq tG;have ZT:xn<=20000:=by rw[<-yP,<-oK]; exact en.out.2 cc tG
    have Oe:Np.gV cc=⟨xf,xt⟩:=by
     have h1:=p8.out.frm;have h2:=p8.out.til;dsimp only at h1 h2;unfold Np.gV;rw[h1,h2]
    obtain⟨PP,IS⟩:∃ PP,(pre.map (·.2)).flatMap Np.oN=PP:=⟨_,rfl⟩;rw[IS] at yD;have pZ:Hid (((pre ++ [((⟨xh,xf,xt,xs,xA,xn,xc⟩,cc):CV×Np.Copy)]).map (·.2)).flatMap Np.oN=PP++sets.map λs=>((⟨xf,xt⟩:Np.Span),s)):=jq (by
     rw[List.map_append,List.flatMap_append,IS];simp[Np.oN,Oe,oK])
    have Mw:Hid (∃ c,Np.dt h.copies z.data.toList=(PP++sets.map λs=>((⟨xf,xt⟩:Np.Span),s))++c):=jq (by
     obtain⟨c,hc⟩:=aoX vd.out;rw[pZ.out,Nm mu.out,la.out] at hc;exact⟨c,hc⟩)
    have Mg:Hid (∀ j,(psP PP ⟨xf,xt⟩ sets j).length<=5000):=jq (λj=>by
     obtain⟨c,hc⟩:=Mw.out;have h1:=Qd List.length hc;have h2:=apQ PP ⟨xf,xt⟩ sets j;have h3:=lc.out;rw[List.length_append] at h1;omega)
    have Ud:Hid (∀ j,∀ p∈psP PP ⟨xf,xt⟩ sets j,Np.Plain47 p.2):=jq (λj p hp=>by
     obtain⟨c,hc⟩:=Mw.out;have h1:p∈Np.dt h.copies z.data.toList:=by rw[hc]; exact List.mem_append.2 (.inl (apZ hp))
     obtain⟨d,hd,_,hs,_⟩:=Np.xb.1 h1;exact Np.Se (HV.out.each d hd).zone hs (Hq.out d hd _ hs))
    obtain⟨w7,gS⟩:∃ w7,W₂.setCell ⟨Bh+1,0,none⟩ (.bool true)=w7:=⟨_,rfl⟩;have t7:Turned (Bh+1) W₂ w7:=by rw[<-gS]; exact⟨rfl,rfl,rfl,by simp[World.setCell],λi hi=>wQ _ _ _ _ hi⟩
    have mL:w7.heap.size=W₂.heap.size:=t7.size;have X8:=rO.cell;have X9:=rO.frozen;have LA:Hid (Boxed w7 (Bh+1) 4 (.bool true)):=jq (by rw[<-gS]; exact rO.set _);have Lw:Hid (Boxed w7 Bh 43 ov):=jq ((t7.block Bh (by omega)).trans tF);have Lu:Hid (dM (Bh+1+1) (Np.nL (us.map (·.1))) w7):=jq (tE.stays (t7.block _ (by omega)));have ml:=jq gg;have OB:=(t7.block W.heap.size (by omega)).trans gg;have LY:Hid (PubK S W₂ w6.heap.size z (λk=>M k/\k<W₂.heap.size) us ov w7):=jq ((PubK.start yk Bm hown).touch ⟨mbt,rO.lt⟩ (.inl Bn) (λe=>by have:=(yk.lt e).1; omega) t7);have Ek:w7.cell? ⟨W.heap.size,4,none⟩=some (.slice xA xn xc):=by simp[World.cell?,OB]
    have tj:Hid (W₂.heap[X+1]?=w6.heap[X+1]?/\W₂.heap[Bh+1+1+1]?=w6.heap[Bh+1+1+1]?):=jq ⟨bd.keep _ (by omega) (by omega),bd.keep _ (by omega) (by omega)⟩;have L6:Hid ((M Bh/\Bh<W₂.heap.size)/\(M (Bh+1+1)/\Bh+1+1<W₂.heap.size)/\(M (Bh+1)/\Bh+1<W₂.heap.size)):=jq ⟨⟨mbo,by omega⟩,⟨mbm,by omega⟩,⟨mbt,by omega⟩⟩;have L7:=jq yD;have XI:X+4<=Bh:=by omega
    have vK:Bh+6<=W.heap.size:=by omega
    have IW:W.heap.size<W₂.heap.size:=by omega
    have Ox:¬ S W.heap.size:=λe=>by have:=fG _ e; omega
    have CW:=jq Ox;clear IS oK tF rO tE yk yD bd t7 gg OB lS aq fG pu Bm mbo mbt mbm hown Eb Bn Ea rJ Oe tG Ox;gi_wp2_with fail;clear gS Ek X8 X9;obtain⟨ih,YL,YE,YF,YG⟩:=info_parts Tryz.infoHeldA;gi_loopw [33] (λi wr=>∃ (j:Nat) (us:List PT) (ov:Value) (M:Nat->Prop),j<=xn/\i = .int .i64 j/\W₂.heap.size<=wr.heap.size/\Hid (Boxed wr Bh 43 ov)/\Hid (Boxed wr (Bh+1) 4 (.bool true))/\Hid (dM (Bh+1+1) (Np.nL (us.map (·.1))) wr)/\Hid (PubK S W₂ w6.heap.size z M us ov wr)/\Hid (M Bh/\M (Bh+1+1)/\M (Bh+1))/\Hid (us.map (λx=>(x.1,x.2.1))=Np.ew (psP PP ⟨xf,xt⟩ sets j))) (λi _=>xn - (intOf i).toNat)
    case atStart=>exact⟨0,us,ov,_,jQ _,rfl,by omega,Lw,LA,Lu,LY,L6,jq (by rw[apK]; exact L7.out)⟩
    case round=>
     clear Lw LA Lu LY L6 L7 mL;obtain⟨j,us,ov,M,hj,rfl,P0,xB,LC,Lv,gI,n9,lK⟩:=hrel;have bO:Hid (Below X w wr):=jq (Sl.out.trans (gI.out.rd.below (by omega) (λk e=>by have:=eO.out k e; omega)));have C8:Hid (∀ k,k<W₂.heap.size->¬ S k->wr.heap[k]?=W₂.heap[k]?):=jq gI.out.rd.keep;by_cases aa:j<xn
     ·obtain⟨x,ac⟩:∃ x,sets[j]?=some x:=⟨_,aQ (by rw[vu.out]; exact aa)⟩;obtain⟨b',o,c',ss,dv,sv,hA,hb',_,hs,Ce,aL,ax,e0,e1,e2,e3,e4⟩:=eE (Ho.out.keep aN (gI.out.rd.below (n:=X) (by omega) (λk e=>by have:=eO.out k e; omega))) ac;simp only[Value.slice.injEq] at hA;obtain⟨rfl,-,rfl⟩:=hA;have lC:x∈cc.zone.sets:=by rw[ql.out]; exact gQ ac
      have GP:Hid (KeyS x):=jq (aRK (HV.out.each cc kW.out).zone lC (Hq.out cc kW.out x lC));have Ml:Hid (Np.Plain47 x):=jq (Np.Se (HV.out.each cc kW.out).zone lC (Hq.out cc kW.out x lC));have dS:Hid (psP PP ⟨xf,xt⟩ sets (j+1)=psP PP ⟨xf,xt⟩ sets j ++ [(⟨xf,xt⟩,x)]):=jq (apJ ac);have qm:=jq (And.intro hs Ce);have MJ:Hid ((⟨⟨ss.data.toList,x.set.type,x.set.life,x.set.data⟩,x.sigs⟩:Np.Signed)=x):=jq (by rw[hs]);have uJ:Hid (x.set.data.length<=1000/\x.sigs.length<=1000):=jq (by have h1:=GP.out.few; have h2:=GP.out.fewS; omega);have iA:Hid (∀ W',Below X wr W'->SlR cr 3 W' W'.heap.size dv x.set.data):=jq (λW' hb=>(aL.keep cB hb).more cZ (by have:=hb.size; omega));have xJ:Hid (∀ W',Below X wr W'->SlR fj 6 W' W'.heap.size sv x.sigs):=jq (λW' hb=>(ax.keep el hb).more fx (by have:=hb.size; omega));obtain⟨dA,dc,rfl,_,_⟩:=ah aL;obtain⟨gA,gc,rfl,_,_⟩:=ah ax;obtain⟨dn,qy⟩:∃ n,x.set.data.length=n:=⟨_,rfl⟩;obtain⟨gn,qD⟩:∃ n,x.sigs.length=n:=⟨_,rfl⟩;rw[qy] at e3 iA;rw[qD] at e4 xJ;have Gl:=jq qy;have Gx:=jq qD;clear ac hs Ce aL ax qy qD lC;have bH:(0:Int)<=(j:Int):=by omega
      have bG:(j:Int)<(xn:Int):=by omega
      obtain⟨w8,ik⟩:∃ w8,wr.alloc (.cells #[.string ss,.int .i64 x.set.type,.int .i64 x.set.life,.slice dA dn dc,.slice gA gn gc] 68)=w8:=⟨_,rfl⟩;have sC:w8.heap.size=wr.heap.size+1:=by rw[<-ik]; simp
      have jY:Below wr.heap.size wr w8:=by rw[<-ik]; exact (vQ _ _).alloc (bQ _) _
      have p0:w8.cell? ⟨wr.heap.size,0,none⟩=some (.string ss):=by rw[<-ik]; simp[go_sem]
      have p1:w8.cell? ⟨wr.heap.size,1,none⟩=some (.int .i64 x.set.type):=by rw[<-ik]; simp[go_sem]
      have p2:w8.cell? ⟨wr.heap.size,2,none⟩=some (.int .i64 x.set.life):=by rw[<-ik]; simp[go_sem]
      have p3:w8.cell? ⟨wr.heap.size,3,none⟩=some (.slice dA dn dc):=by rw[<-ik]; simp[go_sem]
      have p4:w8.cell? ⟨wr.heap.size,4,none⟩=some (.slice gA gn gc):=by rw[<-ik]; simp[go_sem]
      have eF:=jq jY;clear jY;gi_wp2_with fail;refine⟨trivial,rfl,?_⟩;refine (CallsIn.inRound l (callsIn_wide.2 (aJK ss x.set.type x.set.life _ _ x.set.data x.sigs w8 (qk.out.keepAt (bO.out.trans (eF.out.mono (by omega))) zO.out) (by rw[MJ.out]; exact GP.out) (iA.out w8 (eF.out.mono (by omega))) (xJ.out w8 (eF.out.mono (by omega)))))).mono ?_;rw[MJ.out];rintro e w9 ⟨rfl,dO⟩;clear ik e0 e1 e2 e3 e4;have yR:=dO.size;have du:Hid (Below wr.heap.size wr w9):=jq (eF.out.trans (dO.mono (by omega)));replace p0:=(cl dO (by omega)).trans p0;replace p1:=(cl dO (by omega)).trans p1;replace p2:=(cl dO (by omega)).trans p2;replace p3:=(cl dO (by omega)).trans p3;replace p4:=(cl dO (by omega)).trans p4;have CT:Hid (Boxed w9 Bh 43 ov):=jq (eP xB.out du.out (by omega));have LB:Hid (Boxed w9 (Bh+1) 4 (.bool true)):=jq (eP LC.out du.out (by omega));have F5:Hid (dM (Bh+1+1) (Np.nL (us.map (·.1))) w9):=jq (Lv.out.keep du.out (by omega));have rp:=jq (gI.out.keep du.out);have Ej:=(du.out.block _ (by omega)).trans ((C8.out _ (by omega) CW.out).trans ml.out);have OE:w9.heap[X+1]?=w6.heap[X+1]?:=(du.out.block _ (by omega)).trans ((C8.out _ (by omega) (λe=>by have:=eO.out _ e; omega)).trans tj.out.1);have OD:w9.heap[Bh+1+1+1]?=w6.heap[Bh+1+1+1]?:=(du.out.block _ (by omega)).trans ((C8.out _ (by omega) (λe=>by have:=eO.out _ e; omega)).trans tj.out.2);have bx:w9.cell? ⟨Bh+1+1+1,0,none⟩=some (.map (some (Bh+1+1))):=(iQ OD).trans Gb.out.cell;have kz:w9.cell? ⟨X+1,0,none⟩=some (.string z):=(iQ OE).trans mX.out;have l7:=aBK (P:=prog) w9 121 9 3 underlying121 underlying9 (Bh+1+1) _ F5.out (Np.jC x) (.int .i64 0) (by kernel_rfl);have Mz:Hid (∀ y∈us.map (·.1),Np.Plain47 y):=jq (λy hy=>by
       rw[E9 lK.out] at hy;obtain⟨p,hp,rfl⟩:=List.mem_map.1 (Np.yW.1 hy);exact Ud.out j p hp)
      have AD:Hid ((us.map (·.1)).Nodup):=jq (by rw[E9 lK.out]; exact Np.uq _);have My:Hid (us.length<=5000):=jq (by have h1:=Qv lK.out; have h2:=Mg.out j; omega);clear dO OE OD;obtain⟨key,yB⟩:∃ key,Np.jC x=key:=⟨_,rfl⟩;rw[yB] at l7 |-;by_cases hin:x∈us.map (·.1)
      ·obtain⟨q,hq⟩:=List.mem_iff_getElem?.1 hin;have iI:(Np.nL (us.map (·.1))).lookup key=some (.int .i64 ((q:Nat):Int)):=by rw[<-yB]; exact Np.adY Ml.out Mz.out AD.out hq
       rw[iI] at l7;simp only[Option.getD_some,Option.isSome_some] at l7;rw[E9 lK.out] at hq;obtain⟨fv,hy⟩:=aiY lK.out hq;obtain⟨tl,ui⟩:∃ tl,Np.fX (psP PP ⟨xf,xt⟩ sets j) x=tl:=⟨_,rfl⟩;have kZ:Hid (∀ v',(us.set q (x,tl ++ [⟨xf,xt⟩],v')).map (λx=>(x.1,x.2.1))=Np.ew (psP PP ⟨xf,xt⟩ sets (j+1))):=jq (λv'=>by rw[dS.out,<-ui]; exact ajZ lK.out hq _ v');have Hu:Hid (tl.length<=5000):=jq (by rw[<-ui]; have h1:=RH (psP PP ⟨xf,xt⟩ sets j) x; have h2:=Mg.out j; omega);rw[ui] at hy;clear hin iI hq ui yB;obtain⟨n,hn⟩:∃ n,us.length=n:=⟨_,rfl⟩;have a5Z:q<n:=by rw[<-hn]; exact (cQ.1 hy).1
       obtain⟨g,cap,rfl,eI,Ep,wu⟩:=rp.out.rows.row.formSome hn (by omega);have iO:=jq hn;have O9:n<=5000:=by rw[<-hn]; exact My.out
       have t6:aK w6.heap.size w9 fv tl:=rp.out.rows.fresh _ (gQ hy);obtain⟨fA,fc,rfl⟩:=aK.form t6;obtain⟨fn,jt⟩:∃ fn,tl.length=fn:=⟨_,rfl⟩;rw[jt] at hy t6;have uO:=jq jt;have HY:=jq hy;have jL:Hid (∀ k,(Value.slice fA fn fc).ownBlock=some k->w6.heap.size<=k/\k≠g/\k≠W.heap.size):=jq (λk e=>by
        have h1:=World.ownsRow.lt t6 k e;have h2:=(rp.out.rows.off _ (gQ hy) k e).1;have h3:=rp.out.own k (.inr ⟨_,gQ hy,e⟩);exact⟨h1.1,λe=>h2 (by rw[e]; rfl),λe2=>by
         subst e2;rcases h3 with h3 | h3
         ·exact CW.out h3
         ·omega⟩)
       have b6:=CT.out.cell;have f6:w9.cell? ⟨g,q * 8+6,none⟩=some (.slice fA fn fc):=Jn rp.out.rows.row hy;have c1:w9.cell? ⟨W.heap.size,1,none⟩=some (.int .i64 xf):=by simp[World.cell?,Ej]
       have c2:w9.cell? ⟨W.heap.size,2,none⟩=some (.int .i64 xt):=by simp[World.cell?,Ej]
       have oI:(0:Int)<=(q:Int):=by omega
       have kG:(q:Int)<(n:Int):=by omega
       have YC:decide ((20000:Int)<(n:Int))=false:=tQ (by omega);have YD:decide (20000<n)=false:=tQ (by omega);have mW:=rp;have CS:=CT;have F8:=LB;have CR:=F5;have uZ:=n9;have YB:W.heap.size<w9.heap.size:=by omega
       clear hn hy t6 jt Ej wu;gi_wp2_with fail;refine zr λa0 bW=>?_;have lH:=jq bW;have gW:=jq (show a0.eval (.tmp 6) = .pointer (some ⟨Bh,0,none⟩) by rw[bW]; rfl);have uD:=jq (show a0.eval (.tmp 13) = .int .i64 (q:Nat) by rw[bW]; rfl);have uE:=jq (show a0.eval (.tmp 9) = .pointer (some ⟨W.heap.size,0,none⟩) by rw[bW]; rfl);have HM:=jq (show a0.tmps.size=101 by rw[bW]; rfl);clear bW;refine FN (by kernel_rfl) (by kernel_rfl) (by rintro⟨_,_,h⟩; exact h) ?_;refine jg (w:=w9.drew) (D:=[0,1,2,3,4,5,6,7,8,9,10,11,14,15]) (A:=[]) (p:=12) (dst:=eC) (val:=eM g n cap q fA fn fc W.heap.size xf xt undef undef) (m:=101)
        (base:=ea a0 101 xi) (jf (by kernel_rfl)) (by simp) (by simp) (iN (by kernel_rfl)) ?_
        (λi hi=>(kf i (by simp at hi |-; omega)).1) (λi hi j hj=>qV i (by simp at hi |-; omega) j (by simp at hj |-; omega)) (λi hi=>dH (kf i (by simp at hi |-; omega)).2) ?_ ?_ _ _ _ (Held.start (λq hq=>uu q hq) HM.out)
       ·intro i hi aC;simp only[List.mem_cons,Qh,or_false] at hi;rcases hi with rfl | rfl | rfl | rfl | rfl | rfl | rfl | rfl | rfl | rfl | rfl | rfl | rfl | rfl
        all_goals first | (exfalso; simp at aC; done) | exact⟨_,rfl,rfl⟩
       ·intro i hi aC o ho a' hb bg;have k6':=(bn hb (j:=6) (by decide) (by decide)).trans gW.out;have k13':=(bn hb (j:=13) (by decide) (by decide)).trans uD.out;have k9':=(bn hb (j:=9) (by decide) (by decide)).trans uE.out;simp[Act.eval] at k6' k13' k9';simp only[List.mem_cons,Qh,or_false] at hi;rcases hi with rfl | rfl | rfl | rfl | rfl | rfl | rfl | rfl | rfl | rfl | rfl | rfl | rfl | rfl
        all_goals first
         | (exfalso; simp at aC; done)
         | (cases ho
            try simp[Act.eval,Region.binds,eM,eC] at bg
            refine .inl ⟨by simp[Region.wanted],λw' hw'=>?_⟩;subst hw';simp[Oper.quietAt,Oper.quietUpon,execOp,go_sem,eM,k6',k13',k9',b6,f6,c1,c2,oI,kG,bg])
       ·intro f listed a' hH hr;obtain⟨_,o,ho,az⟩:=mem_ready.1 hr
        cases ho
        have hG:=hH.good;have hval:=λi hi hl=>hG.val i hi hl;have b7:∀ k,({ on:=k,ground:=.data } : Edge)∈_->listed.getD k false=true:=λk hk=>az _ hk rfl;have av11:=hval 11 (by simp) (b7 11 (by simp));simp[Act.eval,eM,eC] at av11;simp only[wpOp];simp[Region.wanted];refine .inl ?_;simp[Oper.wp,execOp,go_sem,av11];obtain⟨wA,pR⟩:∃ W',W'=(w9.alloc (.cells #[.int .i64 xf,.int .i64 xt] 114)).drew:=⟨_,rfl⟩;rw[<-pR];have lT:Below w9.heap.size w9 wA:=by rw[pR]; exact ((vQ _ _).alloc (bQ _) _).drew
        have Z8:wA.heap.size=w9.heap.size+1:=by rw[pR]; simp[World.drew]
        have zK:Hid (wA.cell? ⟨w9.heap.size,0,none⟩=some (.int .i64 xf)/\wA.cell? ⟨w9.heap.size,1,none⟩=some (.int .i64 xt)):=jq (by rw[pR]; exact⟨by simp[go_sem],by simp[go_sem]⟩);replace b6:=(cl lT (by omega)).trans b6;replace f6:=(cl lT (by omega)).trans f6;replace c1:=(cl lT (by omega)).trans c1;replace c2:=(cl lT (by omega)).trans c2;have uT:=jq (mW.out.keep lT);have cH:=jq lT;clear pR lT;refine jg (w:=wA) (D:=[0,1,2,3,4,5,6,7,8,9,10,11,14,15,12]) (A:=[12]) (p:=13) (dst:=eC) (val:=eM g n cap q fA fn fc W.heap.size xf xt (.slice (some ⟨w9.heap.size,0,none⟩) 1 1) undef) (m:=101)
         (base:=ea a0 101 xi) (jf (by kernel_rfl)) (by simp) (by simp) (iN (by kernel_rfl)) ?_
         (λi hi=>(kf i (by simp at hi |-; omega)).1) (λi hi j hj=>qV i (by simp at hi |-; omega) j (by simp at hj |-; omega)) (λi hi=>dH (kf i (by simp at hi |-; omega)).2) ?_ ?_ _ _ _ (hH.act (D':=[0,1,2,3,4,5,6,7,8,9,10,11,14,15,12]) (val':=eM g n cap q fA fn fc W.heap.size xf xt (.slice (some ⟨w9.heap.size,0,none⟩) 1 1) undef) hr (by simp) (λi hi=>by simp at hi |-; omega) (λi hi=>by simp at hi; rcases hi with rfl | rfl | rfl | rfl | rfl | rfl | rfl | rfl | rfl | rfl | rfl | rfl | rfl | rfl <;> rfl) rfl (by simp[eC]) (λj hj=>qV 12 (by simp) j (by simp at hj |-; omega) (by rintro rfl; simp at hj)) (dH (kf 12 (by simp)).2) (by simp))
        ·intro i hi aC;simp only[List.mem_cons,Qh,or_false] at hi;rcases hi with rfl | rfl | rfl | rfl | rfl | rfl | rfl | rfl | rfl | rfl | rfl | rfl | rfl | rfl | rfl
         all_goals first | (exfalso; simp at aC; done) | exact⟨_,rfl,rfl⟩
        ·intro i hi aC o ho a' hb bg;have k6':=(bn hb (j:=6) (by decide) (by decide)).trans gW.out;have k13':=(bn hb (j:=13) (by decide) (by decide)).trans uD.out;have k9':=(bn hb (j:=9) (by decide) (by decide)).trans uE.out;simp[Act.eval] at k6' k13' k9';simp only[List.mem_cons,Qh,or_false] at hi;rcases hi with rfl | rfl | rfl | rfl | rfl | rfl | rfl | rfl | rfl | rfl | rfl | rfl | rfl | rfl | rfl
         all_goals first
          | (exfalso; simp at aC; done)
          | (cases ho
             try simp[Act.eval,Region.binds,eM,eC] at bg
             refine .inl ⟨by simp[Region.wanted],λw' hw'=>?_⟩;subst hw';simp[Oper.quietAt,Oper.quietUpon,execOp,go_sem,eM,k6',k13',k9',b6,f6,c1,c2,oI,kG,bg])
        ·intro f listed a' hH hr;obtain⟨_,o,ho,az⟩:=mem_ready.1 hr
         cases ho
         have hG:=hH.good;have hval:=λi hi hl=>hG.val i hi hl;have b7:∀ k,({ on:=k,ground:=.data } : Edge)∈_->listed.getD k false=true:=λk hk=>az _ hk rfl;have av6:=hval 6 (by simp) (b7 6 (by simp));have av12:=hval 12 (by simp) (b7 12 (by simp));simp[eM,eC] at av6 av12;simp only[wpOp];simp[Region.wanted];refine .inl ?_;refine R4 wA (.tmp 68) (.tmp 74) rfl w6.heap.size (.slice fA fn fc) tl av6 (uT.out.rows.fresh _ (gQ HY.out)) w9.heap.size xf xt av12 zK.out.1 zK.out.2 (by have:=Hu.out; omega) (by omega) ?_;intro v8 wB bY aW eT;obtain⟨eA,ec,rfl⟩:=QJ bY (n:=(fn+1)) (by rw[List.length_append,uO.out]; rfl);have Z9:=aW.size;have ffA:wA.frozen? ⟨g,q * 8+6,none⟩=false:=uT.out.rows.row.frozenAt iO.out _;have rW:wB.heap[Bh]?=wA.heap[Bh]?:=aW.block Bh (by omega) (λe=>by have:=(jL.out Bh e.symm).1; omega);have wH:wB.heap[g]?=wA.heap[g]?:=aW.block g (by omega) (λe=>(jL.out g e.symm).2.1 rfl);have wG:wB.heap[W.heap.size]?=wA.heap[W.heap.size]?:=aW.block W.heap.size (by omega) (λe=>(jL.out _ e.symm).2.2 rfl);replace b6:=(iQ (a:=⟨Bh,0,none⟩) rW).trans b6;replace f6:=(iQ (a:=⟨g,q * 8+6,none⟩) wH).trans f6;replace c1:=(iQ (a:=⟨W.heap.size,1,none⟩) wG).trans c1;replace c2:=(iQ (a:=⟨W.heap.size,2,none⟩) wG).trans c2;have ff:=(World.frozen?_of_block (a:=⟨g,q * 8+6,none⟩) wH).trans ffA;have H8:=jq (And.intro bY (And.intro aW eT));clear bY aW eT rW wH wG ffA;refine jg (w:=wB) (D:=[0,1,2,3,4,5,6,7,8,9,10,11,14,15,12,13]) (A:=[13,12]) (p:=16) (dst:=eC) (val:=eM g n cap q fA fn fc W.heap.size xf xt (.slice (some ⟨w9.heap.size,0,none⟩) 1 1) (.slice eA (fn+1) ec)) (m:=101)
          (base:=ea a0 101 xi) (jf (by kernel_rfl)) (by simp) (by simp) (iN (by kernel_rfl)) ?_
          (λi hi=>(kf i (by simp at hi |-; omega)).1) (λi hi j hj=>qV i (by simp at hi |-; omega) j (by simp at hj |-; omega)) (λi hi=>dH (kf i (by simp at hi |-; omega)).2) ?_ ?_ _ _ _ (hH.act (D':=[0,1,2,3,4,5,6,7,8,9,10,11,14,15,12,13]) (val':=eM g n cap q fA fn fc W.heap.size xf xt (.slice (some ⟨w9.heap.size,0,none⟩) 1 1) (.slice eA (fn+1) ec)) hr (by simp) (λi hi=>by simp at hi |-; omega) (λi hi=>by simp at hi; rcases hi with rfl | rfl | rfl | rfl | rfl | rfl | rfl | rfl | rfl | rfl | rfl | rfl | rfl | rfl | rfl <;> rfl) rfl (by simp[eC]) (λj hj=>qV 13 (by simp) j (by simp at hj |-; omega) (by rintro rfl; simp at hj)) (dH (kf 13 (by simp)).2) (by simp))
         ·intro i hi aC;simp only[List.mem_cons,Qh,or_false] at hi;rcases hi with rfl | rfl | rfl | rfl | rfl | rfl | rfl | rfl | rfl | rfl | rfl | rfl | rfl | rfl | rfl | rfl
          all_goals first | (exfalso; simp at aC; done) | exact⟨_,rfl,rfl⟩
         ·intro i hi aC o ho a' hb bg;have k6':=(bn hb (j:=6) (by decide) (by decide)).trans gW.out;have k13':=(bn hb (j:=13) (by decide) (by decide)).trans uD.out;have k9':=(bn hb (j:=9) (by decide) (by decide)).trans uE.out;simp[Act.eval] at k6' k13' k9';simp only[List.mem_cons,Qh,or_false] at hi;rcases hi with rfl | rfl | rfl | rfl | rfl | rfl | rfl | rfl | rfl | rfl | rfl | rfl | rfl | rfl | rfl | rfl
          all_goals first
           | (exfalso; simp at aC; done)
           | (cases ho
              try simp[Act.eval,Region.binds,eM,eC] at bg
              refine .inl ⟨by simp[Region.wanted],λw' hw'=>?_⟩;subst hw';simp[Oper.quietAt,Oper.quietUpon,execOp,go_sem,eM,k6',k13',k9',b6,f6,c1,c2,oI,kG,bg])
         ·intro f listed a' hH hr;obtain⟨_,o,ho,az⟩:=mem_ready.1 hr
          cases ho
          have hG:=hH.good;have hval:=λi hi hl=>hG.val i hi hl;have b7:∀ k,({ on:=k,ground:=.data } : Edge)∈_->listed.getD k false=true:=λk hk=>az _ hk rfl;obtain⟨rfl,dB⟩:=hH.all hr (by kernel_rfl);have av13:=hval 13 (by simp) (dB 13 (by simp) (by simp));have av15:=hval 15 (by simp) (dB 15 (by simp) (by simp));simp[Act.eval,eM,eC] at av13 av15;have kx:=Held.frame (D:=[0,1,2,3,4,5,6,7,8,9,10,11,14,15,12,13]) (dst:=eC) (a0:=a0) (m:=101) hH HM.out (λi hi=>dB i (by simp at hi |-; omega) (by simp at hi; omega)) (λi hi=>(kf i (by simp at hi |-; omega)).1);simp only[wpOp];simp[Region.wanted];refine .inl ?_;simp[Oper.wp,execOp,go_sem,av13,av15,f6,ff];refine⟨ut (λi hi=>?_) (by rw[Array.size_setIfInBounds]; exact hG.size),?_⟩
          ·by_cases hip:i=16
           ·subst hip;have hs:16<listed.size:=by rw[hG.size]; exact hi
            simp[Array.getD,hs]
           ·exact mO (dB i hi hip)
          ·rw[kx,lH.out];simp[lE,Act.put,eM,eC];clear kx hval b7 dB az hG hH;clear b6 f6 c1 c2 ff;obtain⟨W',hW'⟩:∃ W',wB.setCell ⟨g,q * 8+6,none⟩ (.slice eA (fn+1) ec)=W':=⟨_,rfl⟩;have Gv:Hid (PubK S W₂ w6.heap.size z (λk=>M k\/(Value.slice eA (fn+1) ec).ownBlock=some k) (us.set q (x,tl ++ [⟨xf,xt⟩],.slice eA (fn+1) ec)) (.slice (some ⟨g,0,none⟩) n cap) W'):=jq (by rw[<-hW']; exact uT.out.changed iO.out HY.out H8.out.2.1 H8.out.1 H8.out.2.2);have eb:Hid (Below w6.heap.size w9 W'):=jq (by rw[<-hW']; exact ((cH.out.mono (by omega)).trans ((vQ _ _).grown H8.out.2.1 (by omega) (λk e=>(jL.out k e).1))).setCell (by dsimp only; omega) _);have Hp:Hid ((us.set q (x,tl ++ [(⟨xf,xt⟩:Np.Span)],Value.slice eA (fn+1) ec)).map (·.1)=us.map (·.1)):=jq (Rn HY.out rfl);rw[hW'];have Kd:W'.heap.size=wB.heap.size:=by rw[<-hW']; simp[World.setCell]
           gi_wp2_with fail;go_roundw
           case measure=>simp[intOf] <;> omega
           case rel=>exact⟨j+1,_,_,_,by omega,by go_num,by omega,jq (eP CS.out eb.out (by omega)),jq (eP F8.out eb.out (by omega)),jq (by rw[Hp.out]; exact CR.out.keep eb.out (by omega)),Gv,jq ⟨.inl uZ.out.1,.inl uZ.out.2.1,.inl uZ.out.2.2⟩,jq (kZ.out _)⟩
      ·have iI:(Np.nL (us.map (·.1))).lookup key=none:=by rw[<-yB]; exact Np.adK Ml.out Mz.out hin
       rw[iI] at l7;simp only[Option.getD_none,Option.isSome_none] at l7;have Pb:x∉Np.cx ((psP PP ⟨xf,xt⟩ sets j).map (·.2)):=by rw[<-E9 lK.out]; exact hin
       obtain⟨m,hm⟩:∃ m,us.length=m:=⟨_,rfl⟩;have zZ:=jq hm;have uY:Hid (m<=5000):=jq (by rw[<-hm]; exact My.out);obtain⟨wU,Y4,O5,nI⟩:=aBY (P:=prog) w9 121 9 3 underlying121 underlying9 (Bh+1+1) _ F5.out key (.int .i64 ((m:Nat):Int)) iI;obtain⟨oA,oc,rfl⟩:=rp.out.rows.row.formN hm;have b6:=CT.out.cell;have kZ:Hid (∀ v',((us ++ [((x,[],.slice none 0 0):PT)]).set m (x,[] ++ [⟨xf,xt⟩],v')).map (λx=>(x.1,x.2.1))=Np.ew (psP PP ⟨xf,xt⟩ sets (j+1))):=jq (λv'=>by rw[dS.out,<-hm]; exact ajQ lK.out Pb _ _ v');have hzU:wU.heap.size=w9.heap.size:=nI.size;have LZ:=jq (rp.out.touch n9.out.2.1 (.inl tf.out.2.2) (λe=>by have:=(rp.out.rows.lt e).1; omega) nI);have zF:Hid (Below X wr wU):=jq ((du.out.mono (by omega)).trans (nI.below (by omega)));have Ly:Hid (Boxed wU Bh 43 (.slice oA m oc)):=jq ((nI.block Bh (by omega)).trans CT.out);have SB:Hid (Boxed wU (Bh+1) 4 (.bool true)):=jq ((nI.block (Bh+1) (by omega)).trans LB.out);have Su:Hid (dM (Bh+1+1) (Np.nL ((us ++ [((x,[],.slice none 0 0):PT)]).map (·.1))) wU):=jq (by
        rw[List.map_append,List.map_cons,List.map_nil,Np.adX,yB,List.length_map,hm];exact O5)
       have S5:Hid (wU.heap[W.heap.size]?=W₂.heap[W.heap.size]?):=jq ((nI.block _ (by omega)).trans ((du.out.block _ (by omega)).trans (C8.out _ (by omega) CW.out)));clear hin iI Pb hm yB O5 Ej;gi_wp2_with fail;replace b6:=Ly.out.cell;replace kz:=(iQ (a:=⟨X+1,0,none⟩) (nI.block (X+1) (by omega))).trans kz;replace p0:=(iQ (a:=⟨wr.heap.size,0,none⟩) (nI.block wr.heap.size (by omega))).trans p0;replace p1:=(iQ (a:=⟨wr.heap.size,1,none⟩) (nI.block wr.heap.size (by omega))).trans p1;replace p2:=(iQ (a:=⟨wr.heap.size,2,none⟩) (nI.block wr.heap.size (by omega))).trans p2;replace p3:=(iQ (a:=⟨wr.heap.size,3,none⟩) (nI.block wr.heap.size (by omega))).trans p3;replace p4:=(iQ (a:=⟨wr.heap.size,4,none⟩) (nI.block wr.heap.size (by omega))).trans p4;clear Y4 l7 bx nI;refine zr λa0 bW=>?_;have lH:=jq bW;have gW:=jq (show a0.eval (.tmp 6) = .pointer (some ⟨Bh,0,none⟩) by rw[bW]; rfl);have oV:=jq (show a0.eval (.tmp 3) = .pointer (some ⟨X+1,0,none⟩) by rw[bW]; rfl);have CQ:=jq (show a0.eval (.tmp 11) = .pointer (some ⟨wr.heap.size,0,none⟩) by rw[bW]; rfl);have HM:=jq (show a0.tmps.size=101 by rw[bW]; rfl);clear bW;refine FN (by kernel_rfl) (by kernel_rfl) (by rintro⟨_,_,h⟩; exact h) ?_;refine jg (w:=wU.drew) (D:=[0,1,2]) (A:=[]) (p:=3) (dst:=io) (val:=jb oA m oc z ss x.set.type x.set.life dA dn dc gA gn gc undef undef undef) (m:=101)
        (base:=ea a0 101 CA) (jf (by kernel_rfl)) (by simp) (by simp) (iN (by kernel_rfl)) ?_
        (λi hi=>(oO i (by simp at hi |-; omega)).1) (λi hi j hj=>xg i (by simp at hi |-; omega) j (by simp at hj |-; omega)) (λi hi=>dH (oO i (by simp at hi |-; omega)).2) ?_ ?_ _ _ _ (Held.start (λq hq=>uu q hq) HM.out)
       ·intro i hi aC;simp only[List.mem_cons,Qh,or_false] at hi;rcases hi with rfl | rfl | rfl
        all_goals first | (exfalso; simp at aC; done) | exact⟨_,rfl,rfl⟩
       ·intro i hi aC o ho a' hb bg;have k6':=(bn hb (j:=6) (by decide) (by decide)).trans gW.out;have k3':=(bn hb (j:=3) (by decide) (by decide)).trans oV.out;have k11':=(bn hb (j:=11) (by decide) (by decide)).trans CQ.out;simp[Act.eval] at k6' k3' k11';simp only[List.mem_cons,Qh,or_false] at hi;rcases hi with rfl | rfl | rfl
        all_goals first
         | (exfalso; simp at aC; done)
         | (cases ho
            try simp[Act.eval,Region.binds,jb,io] at bg
            refine .inl ⟨by simp[Region.wanted],λw' hw'=>?_⟩;subst hw';simp[Oper.quietAt,Oper.quietUpon,execOp,go_sem,jb,k6',k3',k11',b6,kz,p0,p1,p2,p3,p4,za,bg])
       ·intro f listed a' hH hr;obtain⟨_,o,ho,az⟩:=mem_ready.1 hr
        cases ho
        have hG:=hH.good;have hval:=λi hi hl=>hG.val i hi hl;have b7:∀ k,({ on:=k,ground:=.data } : Edge)∈_->listed.getD k false=true:=λk hk=>az _ hk rfl;have av2:=hval 2 (by simp) (b7 2 (by simp));simp[Act.eval,jb,io] at av2;simp only[wpOp];simp[Region.wanted];refine .inl ?_;simp[Oper.wp,go_sem,av2];refine (Ng ss x.set.type x.set.life _ x.set.data _ x.sigs (by have:=uJ.out.1; omega) (by have:=uJ.out.2; omega) wU.drew (iA.out wU.drew zF.out.drew) (xJ.out wU.drew zF.out.drew)).mono ?_;rintro e wC ⟨dv2,gv2,rfl,js,Bw⟩;have jZ:Below wU.heap.size wU wC:=(vQ wU.heap.size wU).drew.trans Bw;have hzC:=jZ.size;replace p0:=(cl jZ (by omega)).trans p0;replace p1:=(cl jZ (by omega)).trans p1;replace p2:=(cl jZ (by omega)).trans p2;replace p3:=(cl jZ (by omega)).trans p3;replace p4:=(cl jZ (by omega)).trans p4;replace b6:=(cl jZ (by omega)).trans b6;replace kz:=(cl jZ (by omega)).trans kz;have mo:Hid (FT wU.heap.size wC dv2 gv2 x.set.data x.sigs):=jq js;obtain⟨dA2,dc2,rfl,_,_⟩:=ah ((js (λ_=>False) (λ_ e=>e.elim)).1);obtain⟨gA2,gc2,rfl,_,_⟩:=ah ((js (λ_=>False) (λ_ e=>e.elim)).2);rw[Gl.out,Gx.out] at mo |-;have TD:=jq (LZ.out.keep jZ);have F4:=jq jZ;clear js jZ Bw;dsimp only;refine jg (w:=wC) (D:=[0,1,2,4,3]) (A:=[3]) (p:=5) (dst:=io) (val:=jb oA m oc z ss x.set.type x.set.life dA dn dc gA gn gc (.agg #[.string ss,.int .i64 x.set.type,.int .i64 x.set.life,.slice dA2 dn dc2,.slice gA2 gn gc2]) undef undef) (m:=101)
         (base:=ea a0 101 CA) (jf (by kernel_rfl)) (by simp) (by simp) (iN (by kernel_rfl)) ?_
         (λi hi=>(oO i (by simp at hi |-; omega)).1) (λi hi j hj=>xg i (by simp at hi |-; omega) j (by simp at hj |-; omega)) (λi hi=>dH (oO i (by simp at hi |-; omega)).2) ?_ ?_ _ _ _ (hH.act (D':=[0,1,2,4,3]) (val':=jb oA m oc z ss x.set.type x.set.life dA dn dc gA gn gc (.agg #[.string ss,.int .i64 x.set.type,.int .i64 x.set.life,.slice dA2 dn dc2,.slice gA2 gn gc2]) undef undef) hr (by simp) (λi hi=>by simp at hi |-; omega) (λi hi=>by simp at hi; rcases hi with rfl | rfl | rfl <;> rfl) rfl (by simp[io]) (λj hj=>xg 3 (by simp) j (by simp at hj |-; omega) (by rintro rfl; simp at hj)) (dH (oO 3 (by simp)).2) (by simp))
        ·intro i hi aC;simp only[List.mem_cons,Qh,or_false] at hi;rcases hi with rfl | rfl | rfl | rfl | rfl
         all_goals first | (exfalso; simp at aC; done) | exact⟨_,rfl,rfl⟩
        ·intro i hi aC o ho a' hb bg;have k6':=(bn hb (j:=6) (by decide) (by decide)).trans gW.out;have k3':=(bn hb (j:=3) (by decide) (by decide)).trans oV.out;have k11':=(bn hb (j:=11) (by decide) (by decide)).trans CQ.out;simp[Act.eval] at k6' k3' k11';simp only[List.mem_cons,Qh,or_false] at hi;rcases hi with rfl | rfl | rfl | rfl | rfl
         all_goals first
          | (exfalso; simp at aC; done)
          | (cases ho
             try simp[Act.eval,Region.binds,jb,io] at bg
             refine .inl ⟨by simp[Region.wanted],λw' hw'=>?_⟩;subst hw';simp[Oper.quietAt,Oper.quietUpon,execOp,go_sem,jb,k6',k3',k11',b6,kz,p0,p1,p2,p3,p4,za,bg])
        ·intro f listed a' hH hr;obtain⟨_,o,ho,az⟩:=mem_ready.1 hr
         cases ho
         have hG:=hH.good;have hval:=λi hi hl=>hG.val i hi hl;have b7:∀ k,({ on:=k,ground:=.data } : Edge)∈_->listed.getD k false=true:=λk hk=>az _ hk rfl;have av4:=hval 4 (by simp) (b7 4 (by simp));simp[Act.eval,jb,io] at av4;simp only[wpOp];simp[Region.wanted];refine .inl ?_;simp[za] at av4;simp[Oper.wp,execOp,go_sem,av4];obtain⟨wX,nJ⟩:∃ W',W'=wC.alloc (.cells #[.string z,.string ss,.int .i64 x.set.type,.int .i64 x.set.life,.slice dA2 dn dc2,.slice gA2 gn gc2,.slice none 0 0,.slice none 0 0] 70):=⟨_,rfl⟩;rw[<-nJ];have dP:Below wC.heap.size wC wX:=by rw[nJ]; exact (vQ _ _).alloc (bQ _) _
         have Bz:cR wX wC.heap.size 0 [.string z,.string ss,.int .i64 x.set.type,.int .i64 x.set.life,.slice dA2 dn dc2,.slice gA2 gn gc2,.slice none 0 0,.slice none 0 0]:=λi v hi=>by
          rw[nJ]
          match i,hi with
          | 0,hi=>cases hi; simp[go_sem]
          | 1,hi=>cases hi; simp[go_sem]
          | 2,hi=>cases hi; simp[go_sem]
          | 3,hi=>cases hi; simp[go_sem]
          | 4,hi=>cases hi; simp[go_sem]
          | 5,hi=>cases hi; simp[go_sem]
          | 6,hi=>cases hi; simp[go_sem]
          | 7,hi=>cases hi; simp[go_sem]
          | i+8,hi=>simp at hi
         have PV:=dP.size;replace p0:=(cl dP (by omega)).trans p0;replace p1:=(cl dP (by omega)).trans p1;replace p2:=(cl dP (by omega)).trans p2;replace p3:=(cl dP (by omega)).trans p3;replace p4:=(cl dP (by omega)).trans p4;replace b6:=(cl dP (by omega)).trans b6;replace kz:=(cl dP (by omega)).trans kz;have oY:=jq Bz;have GQ:=jq (TD.out.keep dP);have xD:=jq dP;have mY:Hid (qo z (bj wX M) wX.heap.size [.string z,.string ss,.int .i64 x.set.type,.int .i64 x.set.life,.slice dA2 dn dc2,.slice gA2 gn gc2,.slice none 0 0,.slice none 0 0] (x,[],.slice none 0 0)):=jq (by
          have h1:=mo.out M (λk hk=>LZ.out.lt k hk);have h2:=(Leaves'.of_below (M:=M) dP).slr cB xl cZ h1.1;have h3:=(Leaves'.of_below (M:=M) dP).slr el zh fx h1.2;exact⟨ss,_,_,none,0,0,rfl,rfl,qm.out.1,qm.out.2,h2,h3⟩)
         clear nJ dP Bz;refine jg (w:=wX) (D:=[0,1,2,4,3,5]) (A:=[5,3]) (p:=6) (dst:=io) (val:=jb oA m oc z ss x.set.type x.set.life dA dn dc gA gn gc (.agg #[.string ss,.int .i64 x.set.type,.int .i64 x.set.life,.slice dA2 dn dc2,.slice gA2 gn gc2]) (.slice (some ⟨wC.heap.size,0,none⟩) 1 1) undef) (m:=101)
          (base:=ea a0 101 CA) (jf (by kernel_rfl)) (by simp) (by simp) (iN (by kernel_rfl)) ?_
          (λi hi=>(oO i (by simp at hi |-; omega)).1) (λi hi j hj=>xg i (by simp at hi |-; omega) j (by simp at hj |-; omega)) (λi hi=>dH (oO i (by simp at hi |-; omega)).2) ?_ ?_ _ _ _ (hH.act (D':=[0,1,2,4,3,5]) (val':=jb oA m oc z ss x.set.type x.set.life dA dn dc gA gn gc (.agg #[.string ss,.int .i64 x.set.type,.int .i64 x.set.life,.slice dA2 dn dc2,.slice gA2 gn gc2]) (.slice (some ⟨wC.heap.size,0,none⟩) 1 1) undef) hr (by simp) (λi hi=>by simp at hi |-; omega) (λi hi=>by simp at hi; rcases hi with rfl | rfl | rfl | rfl | rfl <;> rfl) rfl (by simp[io]) (λj hj=>xg 5 (by simp) j (by simp at hj |-; omega) (by rintro rfl; simp at hj)) (dH (oO 5 (by simp)).2) (by simp))
         ·intro i hi aC;simp only[List.mem_cons,Qh,or_false] at hi;rcases hi with rfl | rfl | rfl | rfl | rfl | rfl
          all_goals first | (exfalso; simp at aC; done) | exact⟨_,rfl,rfl⟩
         ·intro i hi aC o ho a' hb bg;have k6':=(bn hb (j:=6) (by decide) (by decide)).trans gW.out;have k3':=(bn hb (j:=3) (by decide) (by decide)).trans oV.out;have k11':=(bn hb (j:=11) (by decide) (by decide)).trans CQ.out;simp[Act.eval] at k6' k3' k11';simp only[List.mem_cons,Qh,or_false] at hi;rcases hi with rfl | rfl | rfl | rfl | rfl | rfl
          all_goals first
           | (exfalso; simp at aC; done)
           | (cases ho
              try simp[Act.eval,Region.binds,jb,io] at bg
              refine .inl ⟨by simp[Region.wanted],λw' hw'=>?_⟩;subst hw';simp[Oper.quietAt,Oper.quietUpon,execOp,go_sem,jb,k6',k3',k11',b6,kz,p0,p1,p2,p3,p4,za,bg])
         ·intro f listed a' hH hr;obtain⟨_,o,ho,az⟩:=mem_ready.1 hr
          cases ho
          have hG:=hH.good;have hval:=λi hi hl=>hG.val i hi hl;have b7:∀ k,({ on:=k,ground:=.data } : Edge)∈_->listed.getD k false=true:=λk hk=>az _ hk rfl;have av0:=hval 0 (by simp) (b7 0 (by simp));have av5:=hval 5 (by simp) (b7 5 (by simp));simp[jb,io] at av0 av5;simp only[wpOp];simp[Region.wanted];refine .inl ?_;refine FP (R:=qo z) (M:=M) wX (.tmp 52) (.tmp 57) 43 rfl w6.heap.size yu ih (.agg #[.string ⟨#[]⟩,.string ⟨#[]⟩,.int .i64 0,.int .i64 0,.slice none 0 0,.slice none 0 0,.slice none 0 0,.slice none 0 0]) 144 underlying43 YL YE YF YG rfl (by decide) (.slice oA m oc) us av0 GQ.out.rows.row (some ⟨wC.heap.size,0,none⟩) 1 [(x,[],.slice none 0 0)] av5 (Ft rfl mY.out oY.out) (aAZ z) (by rw[zZ.out]; have:=uY.out; simp[maxLen]; omega) (by rw[zZ.out]; have:=uY.out; simp; omega) (by omega) (Fu z) (Fw z) (Fv z) ?_;intro v8 wY bY aW eT;obtain⟨A8,c8,rfl⟩:=bY.formN (n:=m+1) (by rw[List.length_append,zZ.out]; rfl);have PW:=aW.size;have EF:∀ k,(Value.slice oA m oc).ownBlock=some k->w6.heap.size<=k/\k<wr.heap.size:=λk e=>by have h1:=gI.out.rows.row.lt k e; exact h1
          have yz:wY.heap[wr.heap.size]?=wX.heap[wr.heap.size]?:=aW.block _ (by omega) (λe=>by have:=(EF _ e.symm).2; omega);have rW:wY.heap[Bh]?=wX.heap[Bh]?:=aW.block _ (by omega) (λe=>by have:=(EF _ e.symm).1; omega);have OW:wY.heap[X+1]?=wX.heap[X+1]?:=aW.block _ (by omega) (λe=>by have:=(EF _ e.symm).1; omega);replace p0:=(iQ (a:=⟨wr.heap.size,0,none⟩) yz).trans p0;replace p1:=(iQ (a:=⟨wr.heap.size,1,none⟩) yz).trans p1;replace p2:=(iQ (a:=⟨wr.heap.size,2,none⟩) yz).trans p2;replace p3:=(iQ (a:=⟨wr.heap.size,3,none⟩) yz).trans p3;replace p4:=(iQ (a:=⟨wr.heap.size,4,none⟩) yz).trans p4;replace b6:=(iQ (a:=⟨Bh,0,none⟩) rW).trans b6;replace kz:=(iQ (a:=⟨X+1,0,none⟩) OW).trans kz;have Lz:Hid (Boxed wY Bh 43 (.slice oA m oc)):=jq (rW.trans ((xD.out.block Bh (by omega)).trans ((F4.out.block Bh (by omega)).trans Ly.out)));have S6:Hid (wY.heap[W.heap.size]?=wU.heap[W.heap.size]?):=jq ((aW.block _ (by omega) (λe=>by
           rcases GQ.out.own _ (.inl e.symm) with h1 | h1
           ·exact CW.out h1
           ·omega)).trans ((xD.out.block _ (by omega)).trans (F4.out.block _ (by omega))))
          have SH:Hid (Below w6.heap.size wX wY):=jq ((vQ _ _).grown aW (by omega) (λk e=>(EF k e).1));have pa:=jq (GQ.out.push bY aW eT);clear bY aW eT yz rW OW;refine jg (w:=wY) (D:=[0,1,2,4,3,5,6]) (A:=[6,5,3]) (p:=7) (dst:=io) (val:=jb oA m oc z ss x.set.type x.set.life dA dn dc gA gn gc (.agg #[.string ss,.int .i64 x.set.type,.int .i64 x.set.life,.slice dA2 dn dc2,.slice gA2 gn gc2]) (.slice (some ⟨wC.heap.size,0,none⟩) 1 1) (.slice A8 (m+1) c8)) (m:=101)
           (base:=ea a0 101 CA) (jf (by kernel_rfl)) (by simp) (by simp) (iN (by kernel_rfl)) ?_
           (λi hi=>(oO i (by simp at hi |-; omega)).1) (λi hi j hj=>xg i (by simp at hi |-; omega) j (by simp at hj |-; omega)) (λi hi=>dH (oO i (by simp at hi |-; omega)).2) ?_ ?_ _ _ _ (hH.act (D':=[0,1,2,4,3,5,6]) (val':=jb oA m oc z ss x.set.type x.set.life dA dn dc gA gn gc (.agg #[.string ss,.int .i64 x.set.type,.int .i64 x.set.life,.slice dA2 dn dc2,.slice gA2 gn gc2]) (.slice (some ⟨wC.heap.size,0,none⟩) 1 1) (.slice A8 (m+1) c8)) hr (by simp) (λi hi=>by simp at hi |-; omega) (λi hi=>by simp at hi; rcases hi with rfl | rfl | rfl | rfl | rfl | rfl <;> rfl) rfl (by simp[io]) (λj hj=>xg 6 (by simp) j (by simp at hj |-; omega) (by rintro rfl; simp at hj)) (dH (oO 6 (by simp)).2) (by simp))
          ·intro i hi aC;simp only[List.mem_cons,Qh,or_false] at hi;rcases hi with rfl | rfl | rfl | rfl | rfl | rfl | rfl
           all_goals first | (exfalso; simp at aC; done) | exact⟨_,rfl,rfl⟩
          ·intro i hi aC o ho a' hb bg;have k6':=(bn hb (j:=6) (by decide) (by decide)).trans gW.out;have k3':=(bn hb (j:=3) (by decide) (by decide)).trans oV.out;have k11':=(bn hb (j:=11) (by decide) (by decide)).trans CQ.out;simp[Act.eval] at k6' k3' k11';simp only[List.mem_cons,Qh,or_false] at hi;rcases hi with rfl | rfl | rfl | rfl | rfl | rfl | rfl
           all_goals first
            | (exfalso; simp at aC; done)
            | (cases ho
               try simp[Act.eval,Region.binds,jb,io] at bg
               refine .inl ⟨by simp[Region.wanted],λw' hw'=>?_⟩;subst hw';simp[Oper.quietAt,Oper.quietUpon,execOp,go_sem,jb,k6',k3',k11',b6,kz,p0,p1,p2,p3,p4,za,bg])
          ·intro f listed a' hH hr;obtain⟨_,o,ho,az⟩:=mem_ready.1 hr
           cases ho
           have hG:=hH.good;have hval:=λi hi hl=>hG.val i hi hl;have b7:∀ k,({ on:=k,ground:=.data } : Edge)∈_->listed.getD k false=true:=λk hk=>az _ hk rfl;obtain⟨rfl,dB⟩:=hH.all hr (by kernel_rfl);have av6:=hval 6 (by simp) (dB 6 (by simp) (by simp));simp[Act.eval,jb,io] at av6;have kx:=Held.frame (D:=[0,1,2,4,3,5,6]) (dst:=io) (a0:=a0) (m:=101) hH HM.out (λi hi=>dB i (by simp at hi |-; omega) (by simp at hi; omega)) (λi hi=>(oO i (by simp at hi |-; omega)).1);simp only[wpOp];simp[Region.wanted];refine .inl ?_;have bf:=Lz.out.frozen;have k6':=(bn hG.base (j:=6) (by decide) (by decide)).trans gW.out;simp[Act.eval] at k6';simp[Oper.wp,execOp,go_sem,av6,b6,bf,k6'];refine⟨ut (λi hi=>?_) (by rw[Array.size_setIfInBounds]; exact hG.size),?_⟩
           ·by_cases hip:i=7
            ·subst hip;have hs:7<listed.size:=by rw[hG.size]; exact hi
             simp[Array.getD,hs]
            ·exact mO (dB i hi hip)
           ·rw[kx,lH.out];simp[lE,Act.put,jb,io];clear kx hval b7 dB az hG hH;clear p0 p1 p2 p3 p4 b6 kz bf;obtain⟨wZ,sr⟩:∃ wZ,wY.setCell ⟨Bh,0,none⟩ (.slice A8 (m+1) c8)=wZ:=⟨_,rfl⟩;have tZ:Turned Bh wY wZ:=by rw[<-sr]; exact⟨rfl,rfl,rfl,by simp[World.setCell],λi hi=>wQ _ _ _ _ hi⟩
            have hzZ:wZ.heap.size=wY.heap.size:=tZ.size;have CS:Hid (Boxed wZ Bh 43 (.slice A8 (m+1) c8)):=jq (by rw[<-sr]; exact Lz.out.set _);have IK:Below w6.heap.size wU wY:=((F4.out.mono (by omega)).trans (xD.out.mono (by omega))).trans SH.out;have F8:Hid (Boxed wZ (Bh+1) 4 (.bool true)):=jq ((tZ.block (Bh+1) (by omega)).trans (eP SB.out IK (by omega)));have CR:Hid (dM (Bh+1+1) (Np.nL ((us ++ [((x,[],.slice none 0 0):PT)]).map (·.1))) wZ):=jq ((Su.out.keep IK (by omega)).stays (tZ.block _ (by omega)));obtain⟨u1,uj⟩:∃ u1,us ++ [((x,[],.slice none 0 0):PT)]=u1:=⟨_,rfl⟩;obtain⟨M1,IP⟩:∃ M1:Nat->Prop,(λk=>M k\/(Value.slice A8 (m+1) c8).ownBlock=some k)=M1:=⟨_,rfl⟩;have mW:Hid (PubK S W₂ w6.heap.size z M1 u1 (.slice A8 (m+1) c8) wZ):=jq (by rw[<-uj,<-IP]; exact pa.out.touch (.inl n9.out.1) (.inl tf.out.1) (λe=>by have:=(pa.out.rows.lt e).1; omega) tZ);have uZ:Hid (M1 Bh/\M1 (Bh+1+1)/\M1 (Bh+1)):=jq (by rw[<-IP]; exact⟨.inl n9.out.1,.inl n9.out.2.1,.inl n9.out.2.2⟩);rw[uj] at CR kZ;have HY:Hid (u1[m]?=some (x,[],.slice none 0 0)):=jq (by rw[<-uj,<-zZ.out]; simp);have iO:Hid (u1.length=m+1):=jq (by rw[<-uj,<-zZ.out]; simp);have uO:Hid (([]:List Np.Span).length=0):=jq rfl;have Hu:Hid (([]:List Np.Span).length<=5000):=jq (by simp);obtain⟨g,cap,ON,eI,Ep,wu⟩:=mW.out.rows.row.formSome iO.out (by omega);simp only[Value.slice.injEq] at ON;obtain⟨rfl,-,rfl⟩:=ON;have jL:Hid (∀ k,(Value.slice none 0 0).ownBlock=some k->w6.heap.size<=k/\k≠g/\k≠W.heap.size):=jq (λk e=>by cases e);have Jf:=((tZ.block _ (by omega)).trans (S6.out.trans S5.out)).trans ml.out;have b6:=CS.out.cell;have f6:wZ.cell? ⟨g,m * 8+6,none⟩=some (.slice none 0 0):=Jn mW.out.rows.row HY.out;have c1:wZ.cell? ⟨W.heap.size,1,none⟩=some (.int .i64 xf):=by simp[World.cell?,Jf]
            have c2:wZ.cell? ⟨W.heap.size,2,none⟩=some (.int .i64 xt):=by simp[World.cell?,Jf]
            have oI:(0:Int)<=(m:Int):=by omega
            have kG:(m:Int)<(m:Int)+1:=by omega
            have YC:decide ((20000:Int)<(m:Int)+1)=false:=tQ (by have:=uY.out; omega);have YD:decide (20000<m+1)=false:=tQ (by have:=uY.out; omega);rw[sr];have YB:W.heap.size<wZ.heap.size:=by omega
            clear Jf wu IK tZ sr uj IP;gi_wp2_with fail;refine zr λa0 bW=>?_;have lH:=jq bW;have gW:=jq (show a0.eval (.tmp 6) = .pointer (some ⟨Bh,0,none⟩) by rw[bW]; rfl);have uD:=jq (show a0.eval (.tmp 13) = .int .i64 (m:Nat) by rw[bW]; rfl);have uE:=jq (show a0.eval (.tmp 9) = .pointer (some ⟨W.heap.size,0,none⟩) by rw[bW]; rfl);have HM:=jq (show a0.tmps.size=101 by rw[bW]; rfl);clear bW;refine FN (by kernel_rfl) (by kernel_rfl) (by rintro⟨_,_,h⟩; exact h) ?_;refine jg (w:=wZ.drew) (D:=[0,1,2,3,4,5,6,7,8,9,10,11,14,15]) (A:=[]) (p:=12) (dst:=eC) (val:=eM g (m+1) c8 m none 0 0 W.heap.size xf xt undef undef) (m:=101)
             (base:=ea a0 101 xi) (jf (by kernel_rfl)) (by simp) (by simp) (iN (by kernel_rfl)) ?_
             (λi hi=>(kf i (by simp at hi |-; omega)).1) (λi hi j hj=>qV i (by simp at hi |-; omega) j (by simp at hj |-; omega)) (λi hi=>dH (kf i (by simp at hi |-; omega)).2) ?_ ?_ _ _ _ (Held.start (λq hq=>uu q hq) HM.out)
            ·intro i hi aC;simp only[List.mem_cons,Qh,or_false] at hi;rcases hi with rfl | rfl | rfl | rfl | rfl | rfl | rfl | rfl | rfl | rfl | rfl | rfl | rfl | rfl
             all_goals first | (exfalso; simp at aC; done) | exact⟨_,rfl,rfl⟩
            ·intro i hi aC o ho a' hb bg;have k6':=(bn hb (j:=6) (by decide) (by decide)).trans gW.out;have k13':=(bn hb (j:=13) (by decide) (by decide)).trans uD.out;have k9':=(bn hb (j:=9) (by decide) (by decide)).trans uE.out;simp[Act.eval] at k6' k13' k9';simp only[List.mem_cons,Qh,or_false] at hi;rcases hi with rfl | rfl | rfl | rfl | rfl | rfl | rfl | rfl | rfl | rfl | rfl | rfl | rfl | rfl
             all_goals first
              | (exfalso; simp at aC; done)
              | (cases ho
                 try simp[Act.eval,Region.binds,eM,eC] at bg
                 refine .inl ⟨by simp[Region.wanted],λw' hw'=>?_⟩;subst hw';simp[Oper.quietAt,Oper.quietUpon,execOp,go_sem,eM,k6',k13',k9',b6,f6,c1,c2,oI,kG,bg])
            ·intro f listed a' hH hr;obtain⟨_,o,ho,az⟩:=mem_ready.1 hr
             cases ho
             have hG:=hH.good;have hval:=λi hi hl=>hG.val i hi hl;have b7:∀ k,({ on:=k,ground:=.data } : Edge)∈_->listed.getD k false=true:=λk hk=>az _ hk rfl;have av11:=hval 11 (by simp) (b7 11 (by simp));simp[Act.eval,eM,eC] at av11;simp only[wpOp];simp[Region.wanted];refine .inl ?_;simp[Oper.wp,execOp,go_sem,av11];obtain⟨wA,pR⟩:∃ W',W'=(wZ.alloc (.cells #[.int .i64 xf,.int .i64 xt] 114)).drew:=⟨_,rfl⟩;rw[<-pR];have lT:Below wZ.heap.size wZ wA:=by rw[pR]; exact ((vQ _ _).alloc (bQ _) _).drew
             have Z8:wA.heap.size=wZ.heap.size+1:=by rw[pR]; simp[World.drew]
             have zK:Hid (wA.cell? ⟨wZ.heap.size,0,none⟩=some (.int .i64 xf)/\wA.cell? ⟨wZ.heap.size,1,none⟩=some (.int .i64 xt)):=jq (by rw[pR]; exact⟨by simp[go_sem],by simp[go_sem]⟩);replace b6:=(cl lT (by omega)).trans b6;replace f6:=(cl lT (by omega)).trans f6;replace c1:=(cl lT (by omega)).trans c1;replace c2:=(cl lT (by omega)).trans c2;have uT:=jq (mW.out.keep lT);have cH:=jq lT;clear pR lT;refine jg (w:=wA) (D:=[0,1,2,3,4,5,6,7,8,9,10,11,14,15,12]) (A:=[12]) (p:=13) (dst:=eC) (val:=eM g (m+1) c8 m none 0 0 W.heap.size xf xt (.slice (some ⟨wZ.heap.size,0,none⟩) 1 1) undef) (m:=101)
              (base:=ea a0 101 xi) (jf (by kernel_rfl)) (by simp) (by simp) (iN (by kernel_rfl)) ?_
              (λi hi=>(kf i (by simp at hi |-; omega)).1) (λi hi j hj=>qV i (by simp at hi |-; omega) j (by simp at hj |-; omega)) (λi hi=>dH (kf i (by simp at hi |-; omega)).2) ?_ ?_ _ _ _ (hH.act (D':=[0,1,2,3,4,5,6,7,8,9,10,11,14,15,12]) (val':=eM g (m+1) c8 m none 0 0 W.heap.size xf xt (.slice (some ⟨wZ.heap.size,0,none⟩) 1 1) undef) hr (by simp) (λi hi=>by simp at hi |-; omega) (λi hi=>by simp at hi; rcases hi with rfl | rfl | rfl | rfl | rfl | rfl | rfl | rfl | rfl | rfl | rfl | rfl | rfl | rfl <;> rfl) rfl (by simp[eC]) (λj hj=>qV 12 (by simp) j (by simp at hj |-; omega) (by rintro rfl; simp at hj)) (dH (kf 12 (by simp)).2) (by simp))
             ·intro i hi aC;simp only[List.mem_cons,Qh,or_false] at hi;rcases hi with rfl | rfl | rfl | rfl | rfl | rfl | rfl | rfl | rfl | rfl | rfl | rfl | rfl | rfl | rfl
              all_goals first | (exfalso; simp at aC; done) | exact⟨_,rfl,rfl⟩
             ·intro i hi aC o ho a' hb bg;have k6':=(bn hb (j:=6) (by decide) (by decide)).trans gW.out;have k13':=(bn hb (j:=13) (by decide) (by decide)).trans uD.out;have k9':=(bn hb (j:=9) (by decide) (by decide)).trans uE.out;simp[Act.eval] at k6' k13' k9';simp only[List.mem_cons,Qh,or_false] at hi;rcases hi with rfl | rfl | rfl | rfl | rfl | rfl | rfl | rfl | rfl | rfl | rfl | rfl | rfl | rfl | rfl
              all_goals first
               | (exfalso; simp at aC; done)
               | (cases ho
                  try simp[Act.eval,Region.binds,eM,eC] at bg
                  refine .inl ⟨by simp[Region.wanted],λw' hw'=>?_⟩;subst hw';simp[Oper.quietAt,Oper.quietUpon,execOp,go_sem,eM,k6',k13',k9',b6,f6,c1,c2,oI,kG,bg])
             ·intro f listed a' hH hr;obtain⟨_,o,ho,az⟩:=mem_ready.1 hr
              cases ho
              have hG:=hH.good;have hval:=λi hi hl=>hG.val i hi hl;have b7:∀ k,({ on:=k,ground:=.data } : Edge)∈_->listed.getD k false=true:=λk hk=>az _ hk rfl;have av6:=hval 6 (by simp) (b7 6 (by simp));have av12:=hval 12 (by simp) (b7 12 (by simp));simp[eM,eC] at av6 av12;simp only[wpOp];simp[Region.wanted];refine .inl ?_;refine R4 wA (.tmp 68) (.tmp 74) rfl w6.heap.size (.slice none 0 0) [] av6 (uT.out.rows.fresh _ (gQ HY.out)) wZ.heap.size xf xt av12 zK.out.1 zK.out.2 (by have:=Hu.out; omega) (by omega) ?_;intro v8 wB bY aW eT;obtain⟨eA,ec,rfl⟩:=QJ bY (n:=1) (by rw[List.length_append,uO.out]; rfl);have Z9:=aW.size;have ffA:wA.frozen? ⟨g,m * 8+6,none⟩=false:=uT.out.rows.row.frozenAt iO.out _;have rW:wB.heap[Bh]?=wA.heap[Bh]?:=aW.block Bh (by omega) (λe=>by have:=(jL.out Bh e.symm).1; omega);have wH:wB.heap[g]?=wA.heap[g]?:=aW.block g (by omega) (λe=>(jL.out g e.symm).2.1 rfl);have wG:wB.heap[W.heap.size]?=wA.heap[W.heap.size]?:=aW.block W.heap.size (by omega) (λe=>(jL.out _ e.symm).2.2 rfl);replace b6:=(iQ (a:=⟨Bh,0,none⟩) rW).trans b6;replace f6:=(iQ (a:=⟨g,m * 8+6,none⟩) wH).trans f6;replace c1:=(iQ (a:=⟨W.heap.size,1,none⟩) wG).trans c1;replace c2:=(iQ (a:=⟨W.heap.size,2,none⟩) wG).trans c2;have ff:=(World.frozen?_of_block (a:=⟨g,m * 8+6,none⟩) wH).trans ffA;have H8:=jq (And.intro bY (And.intro aW eT));clear bY aW eT rW wH wG ffA;refine jg (w:=wB) (D:=[0,1,2,3,4,5,6,7,8,9,10,11,14,15,12,13]) (A:=[13,12]) (p:=16) (dst:=eC) (val:=eM g (m+1) c8 m none 0 0 W.heap.size xf xt (.slice (some ⟨wZ.heap.size,0,none⟩) 1 1) (.slice eA 1 ec)) (m:=101)
               (base:=ea a0 101 xi) (jf (by kernel_rfl)) (by simp) (by simp) (iN (by kernel_rfl)) ?_
               (λi hi=>(kf i (by simp at hi |-; omega)).1) (λi hi j hj=>qV i (by simp at hi |-; omega) j (by simp at hj |-; omega)) (λi hi=>dH (kf i (by simp at hi |-; omega)).2) ?_ ?_ _ _ _ (hH.act (D':=[0,1,2,3,4,5,6,7,8,9,10,11,14,15,12,13]) (val':=eM g (m+1) c8 m none 0 0 W.heap.size xf xt (.slice (some ⟨wZ.heap.size,0,none⟩) 1 1) (.slice eA 1 ec)) hr (by simp) (λi hi=>by simp at hi |-; omega) (λi hi=>by simp at hi; rcases hi with rfl | rfl | rfl | rfl | rfl | rfl | rfl | rfl | rfl | rfl | rfl | rfl | rfl | rfl | rfl <;> rfl) rfl (by simp[eC]) (λj hj=>qV 13 (by simp) j (by simp at hj |-; omega) (by rintro rfl; simp at hj)) (dH (kf 13 (by simp)).2) (by simp))
              ·intro i hi aC;simp only[List.mem_cons,Qh,or_false] at hi;rcases hi with rfl | rfl | rfl | rfl | rfl | rfl | rfl | rfl | rfl | rfl | rfl | rfl | rfl | rfl | rfl | rfl
               all_goals first | (exfalso; simp at aC; done) | exact⟨_,rfl,rfl⟩
              ·intro i hi aC o ho a' hb bg;have k6':=(bn hb (j:=6) (by decide) (by decide)).trans gW.out;have k13':=(bn hb (j:=13) (by decide) (by decide)).trans uD.out;have k9':=(bn hb (j:=9) (by decide) (by decide)).trans uE.out;simp[Act.eval] at k6' k13' k9';simp only[List.mem_cons,Qh,or_false] at hi;rcases hi with rfl | rfl | rfl | rfl | rfl | rfl | rfl | rfl | rfl | rfl | rfl | rfl | rfl | rfl | rfl | rfl
               all_goals first
                | (exfalso; simp at aC; done)
                | (cases ho
                   try simp[Act.eval,Region.binds,eM,eC] at bg
                   refine .inl ⟨by simp[Region.wanted],λw' hw'=>?_⟩;subst hw';simp[Oper.quietAt,Oper.quietUpon,execOp,go_sem,eM,k6',k13',k9',b6,f6,c1,c2,oI,kG,bg])
              ·intro f listed a' hH hr;obtain⟨_,o,ho,az⟩:=mem_ready.1 hr
               cases ho
               have hG:=hH.good;have hval:=λi hi hl=>hG.val i hi hl;have b7:∀ k,({ on:=k,ground:=.data } : Edge)∈_->listed.getD k false=true:=λk hk=>az _ hk rfl;obtain⟨rfl,dB⟩:=hH.all hr (by kernel_rfl);have av13:=hval 13 (by simp) (dB 13 (by simp) (by simp));have av15:=hval 15 (by simp) (dB 15 (by simp) (by simp));simp[Act.eval,eM,eC] at av13 av15;have kx:=Held.frame (D:=[0,1,2,3,4,5,6,7,8,9,10,11,14,15,12,13]) (dst:=eC) (a0:=a0) (m:=101) hH HM.out (λi hi=>dB i (by simp at hi |-; omega) (by simp at hi; omega)) (λi hi=>(kf i (by simp at hi |-; omega)).1);simp only[wpOp];simp[Region.wanted];refine .inl ?_;simp[Oper.wp,execOp,go_sem,av13,av15,f6,ff];refine⟨ut (λi hi=>?_) (by rw[Array.size_setIfInBounds]; exact hG.size),?_⟩
               ·by_cases hip:i=16
                ·subst hip;have hs:16<listed.size:=by rw[hG.size]; exact hi
                 simp[Array.getD,hs]
                ·exact mO (dB i hi hip)
               ·rw[kx,lH.out];simp[lE,Act.put,eM,eC];clear kx hval b7 dB az hG hH;clear b6 f6 c1 c2 ff;obtain⟨W',hW'⟩:∃ W',wB.setCell ⟨g,m * 8+6,none⟩ (.slice eA 1 ec)=W':=⟨_,rfl⟩;have Gv:Hid (PubK S W₂ w6.heap.size z (λk=>M1 k\/(Value.slice eA 1 ec).ownBlock=some k) (u1.set m (x,[] ++ [⟨xf,xt⟩],.slice eA 1 ec)) (.slice (some ⟨g,0,none⟩) (m+1) c8) W'):=jq (by rw[<-hW']; exact uT.out.changed iO.out HY.out H8.out.2.1 H8.out.1 H8.out.2.2);have eb:Hid (Below w6.heap.size wZ W'):=jq (by rw[<-hW']; exact ((cH.out.mono (by omega)).trans ((vQ _ _).grown H8.out.2.1 (by omega) (λk e=>(jL.out k e).1))).setCell (by dsimp only; omega) _);have Hp:Hid ((u1.set m (x,[] ++ [(⟨xf,xt⟩:Np.Span)],Value.slice eA 1 ec)).map (·.1)=u1.map (·.1)):=jq (Rn HY.out rfl);rw[hW'];have Kd:W'.heap.size=wB.heap.size:=by rw[<-hW']; simp[World.setCell]
                gi_wp2_with fail;go_roundw
                case measure=>simp[intOf] <;> omega
                case rel=>exact⟨j+1,_,_,_,by omega,by go_num,by omega,jq (eP CS.out eb.out (by omega)),jq (eP F8.out eb.out (by omega)),jq (by rw[Hp.out]; exact CR.out.keep eb.out (by omega)),Gv,jq ⟨.inl uZ.out.1,.inl uZ.out.2.1,.inl uZ.out.2.2⟩,jq (kZ.out _)⟩
     ·obtain rfl:j=xn:=by omega
      obtain⟨Oc,Od⟩:=gI.out.stop;have mw:=jq Oc;have jM:=jq Od;have Ut:Hid (RdStep (λk=>k=Bh\/k=Bh+1\/k=Bh+1+1) w6 wr):=jq (Aj.out.trans gI.out.rd (λk e=>by have:=eO.out k e; omega));clear Oc Od;gi_wp2_with fail;refine⟨λk=>S k\/(W₂.heap.size<=k/\k<wr.heap.size),gI.out.rd.mono (λk e=>.inl e),λk e=>?_,λk e=>?_,us,ov,_,.inl tf.out.1,.inl tf.out.2.1,.inl tf.out.2.2,jM.out,λk e=>?_,λk e=>.inr e,.inl n9.out.1,.inl n9.out.2.2,.inl n9.out.2.1,xB.out,?_,Lv.out,mw.out,?_,Ut.out⟩
      ·rcases e with e | e
       ·exact .inl (.inl e)
       ·exact .inr e.1
      ·rcases e with e | e
       ·have:=Ux.out k e; omega
       ·exact e.2
      ·rcases e with e | e
       ·exact eO.out k e
       ·right; right; right; omega
      ·have e:(!(pre ++ [((⟨xh,xf,xt,xs,xA,j,xc⟩,cc):CV×Np.Copy)]).isEmpty)=true:=by simp
       rw[e];exact LC.out
      ·rw[pZ.out,<-aoY vu.out];exact lK.out
end
end Go.Proofs.YtbfbobfbgabjiaaGreatDoor
