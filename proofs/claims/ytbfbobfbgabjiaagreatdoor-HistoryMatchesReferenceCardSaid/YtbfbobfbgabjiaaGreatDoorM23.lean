/- Parts of the proof. No condition. -/
import Derived.Test.YtbfbobfbgabjiaaGreatDoorM22
set_option linter.all false
set_option maxRecDepth 100000
set_option maxHeartbeats 8000000
namespace Go.Proofs.YtbfbobfbgabjiaaGreatDoor
open Go.Proofs.Tryz
section
open Go.RowKit Go.Shelf Go.MapKept
attribute [local go_sem] Oper.semAt_some CV.cells
def yu(z:ByteArray):Value->Value
 | .agg xs=>.agg (#[.string z]++xs ++ #[.slice none 0 0,.slice none 0 0])
 | _=>undef
def AI:Value->Value
 | .tuple xs=>xs.getD 0 undef
 | _=>undef
def D8:Value->Value
 | .tuple xs=>xs.getD 1 undef
 | _=>undef
def fl(g n cap q:Nat)(fA:Option Addr)(fn fc cb:Nat)(xf xt:Int)(e12:Value)(e13:Value)(i:Nat):Value:=[.slice (some ⟨g,0,none⟩) n cap,.int .i64 (q:Nat),.slice (some ⟨g,0,none⟩) n cap,.int .i64 (q:Nat),.pointer (some ⟨g,q * 8,none⟩),.pointer (some ⟨g,q * 8+6,none⟩),.slice fA fn fc,.pointer (some ⟨cb,1,none⟩),.int .i64 xf,.pointer (some ⟨cb,2,none⟩),.int .i64 xt,.agg #[.int .i64 xf,.int .i64 xt],e12,e13,.pointer (some ⟨g,q * 8,none⟩),.pointer (some ⟨g,q * 8+6,none⟩),undef].getD i undef
def eU(i:Nat):Nat:=[62,63,64,65,66,67,68,69,70,71,72,73,74,75,76,77,0].getD i 0
def vj:List Nat:=[0,1,2,3,4,5,6,7,8,9,10,11,14,15,12,13].map eU
theorem jW:∀ i∈[0,1,2,3,4,5,6,7,8,9,10,11,14,15,12,13],eU i<101/\eU i∈vj:=by decide
theorem qp:∀ i∈[0,1,2,3,4,5,6,7,8,9,10,11,14,15,12,13],∀ j∈[0,1,2,3,4,5,6,7,8,9,10,11,14,15,12,13],j≠i->eU i≠eU j:=by decide
def jl(oA:Option Addr)(m oc:Nat)(z ss:ByteArray)(sty slf:Int)(dA:Option Addr)(dn dc:Nat)(gA:Option Addr)(gn gc:Nat)(e3:Value)(e5:Value)(e6:Value)(i:Nat):Value:=[.slice oA m oc,.string z,.agg #[.string ss,.int .i64 sty,.int .i64 slf,.slice dA dn dc,.slice gA gn gc],e3,yu z e3,e5,e6,undef].getD i undef
def iD(i:Nat):Nat:=[52,53,54,55,56,57,58,0].getD i 0
def Af:List Nat:=[0,1,2,4,3,5,6].map iD
theorem oy:∀ i∈[0,1,2,4,3,5,6],iD i<101/\iD i∈Af:=by decide
theorem uZ:∀ i∈[0,1,2,4,3,5,6],∀ j∈[0,1,2,4,3,5,6],j≠i->iD i≠iD j:=by decide
def nA(g n cap q:Nat)(fA:Option Addr)(fn fc:Nat)(e7:Value)(i:Nat):Value:=[.slice (some ⟨g,0,none⟩) n cap,.int .i64 (q:Nat),.slice (some ⟨g,0,none⟩) n cap,.int .i64 (q:Nat),.pointer (some ⟨g,q * 8,none⟩),.pointer (some ⟨g,q * 8+6,none⟩),.slice fA fn fc,e7,e7,AI e7,D8 e7,.pointer (some ⟨g,q * 8,none⟩),.pointer (some ⟨g,q * 8+6,none⟩),undef].getD i undef
def mc(i:Nat):Nat:=[87,88,89,90,91,92,93,94,86,95,96,97,98,0].getD i 0
def G4:List Nat:=[0,1,2,3,4,5,6,8,9,10,11,12,7].map mc
theorem x7:∀ i∈[0,1,2,3,4,5,6,8,9,10,11,12,7],mc i<101/\mc i∈G4:=by decide
theorem De:∀ i∈[0,1,2,3,4,5,6,8,9,10,11,12,7],∀ j∈[0,1,2,3,4,5,6,8,9,10,11,12,7],j≠i->mc i≠mc j:=by decide
def psP(PP:List (Np.Span×Np.Signed))(sp:Np.Span)(sets:List Np.Signed)(j:Nat):List (Np.Span×Np.Signed):=PP++(sets.take j).map λs=>(sp,s)
theorem YF(PP:List (Np.Span×Np.Signed))(sp:Np.Span)(sets:List Np.Signed):psP PP sp sets 0=PP:=by simp[psP]
theorem Zp{PP:List (Np.Span×Np.Signed)}{sp:Np.Span}{sets:List Np.Signed}{j:Nat}(h:sets.length=j):psP PP sp sets j=PP++sets.map λs=>(sp,s):=by unfold psP; rw[kQ (by omega)]
theorem YG{PP:List (Np.Span×Np.Signed)}{sp:Np.Span}{sets:List Np.Signed}{j:Nat}{x:Np.Signed}(h:sets[j]?=some x):psP PP sp sets (j+1)=psP PP sp sets j ++ [(sp,x)]:=by
 obtain⟨hl,he⟩:=cQ.1 h;unfold psP;rw[fQ hl,he,List.map_append,List.append_assoc];rfl
theorem Zn{PP:List (Np.Span×Np.Signed)}{sp:Np.Span}{sets:List Np.Signed}{j:Nat}{p:Np.Span×Np.Signed}(h:p∈psP PP sp sets j):p∈PP++sets.map λs=>(sp,s):=by
 rcases List.mem_append.1 h with h | h
 ·exact List.mem_append.2 (.inl h)
 ·obtain⟨s,hs,rfl⟩:=List.mem_map.1 h;exact List.mem_append.2 (.inr (List.mem_map.2 ⟨s,List.mem_of_mem_take hs,rfl⟩))
theorem Zo(PP:List (Np.Span×Np.Signed))(sp:Np.Span)(sets:List Np.Signed)(j:Nat):(psP PP sp sets j).length<=(PP++sets.map λs=>(sp,s)).length:=by
 unfold psP;simp only[List.length_append,List.length_map,List.length_take];omega
theorem UK{a b:List (CV×Np.Copy)}(h:a <+: b):∃ c,((b.map (·.2)).flatMap Np.oI)=((a.map (·.2)).flatMap Np.oI)++c:=by
 obtain⟨c,rfl⟩:=h;exact⟨(c.map (·.2)).flatMap Np.oI,by rw[List.map_append,List.flatMap_append]⟩
def Em(w6:World)(bo bt bm:Nat)(zn:ByteArray)(pre:List (CV×Np.Copy))(S:Nat->Prop)(W:World):Prop:=
 ∃ (xs:List PT) (ov:Value) (M:Nat->Prop),S bo/\S bt/\S bm/\(∀ k,tP xs ov k->S k)/\(∀ k,S k->k=bo\/k=bt\/k=bm\/w6.heap.size<=k)/\(∀ k,¬ S k->M k)/\M bo/\M bt/\M bm/\
   Boxed W bo 43 ov/\Boxed W bt 4 (.bool (!pre.isEmpty))/\dW bm (Np.nE (xs.map (·.1))) W/\PubR w6.heap.size M zn xs ov W/\xs.map (λx=>(x.1,x.2.1))=Np.eX ((pre.map (·.2)).flatMap Np.oI)/\RdStep (λk=>k=bo\/k=bt\/k=bm) w6 W
theorem MK(w6:World)(bo bt bm:Nat)(zn:ByteArray):gh w6.heap.size (Em w6 bo bt bm zn):=by
 rintro pre S W W' ⟨xs,ov,M,h1,h2,h3,h4,h5,h6,m1,m2,m3,h7,h8,h9,mS,uL,tU⟩ aB;refine⟨xs,ov,M,h1,h2,h3,h4,h5,h6,m1,m2,m3,kN h7 aB h1,kN h8 aB h2,h9.stays (aB.keep bm h9.lt (.inr h3)),?_,uL,⟨aB.os.trans tU.os,aB.tape.trans tU.tape,aB.output.trans tU.output,yQ tU.size aB.size,λk hk JV=>(aB.keep k (lQ hk tU.size) (.inl hk)).trans (tU.keep k hk JV)⟩⟩;exact mS.leaves ⟨aB.os,aB.tape,aB.output,aB.size,λi hi hm=>⟨hm,aB.keep i hi (.inr (Classical.byContradiction λhs=>hm (h6 i hs)))⟩⟩ (λg hg=>⟨aB.keep g (mS.lt hg).2.1 (.inr (h4 g hg)),(mS.lt hg).2.2⟩)
theorem Wv{w6:World}{bo bt bm:Nat}{zn:ByteArray}{pre:List (CV×Np.Copy)}{S:Nat->Prop}{W W':World}(h:Em w6 bo bt bm zn pre S W)(hb:Below W.heap.size W W'):Em w6 bo bt bm zn pre S W':=by
 obtain⟨xs,ov,M,h1,h2,h3,h4,h5,h6,m1,m2,m3,h7,h8,h9,mS,uL,tU⟩:=h;exact⟨xs,ov,M,h1,h2,h3,h4,h5,h6,m1,m2,m3,fC h7 hb h7.lt,fC h8 hb h8.lt,h9.keep hb h9.lt,mS.keep hb,uL,tU.then_below hb⟩
theorem Mo{w:World}{B:Nat}{L:List (CV×Np.Copy)}(h:∀ x∈L,CVOf w B x.1 x.2)(z:List UInt8):((L.filter λx=>x.1.str.data.toList == z).map (·.2)).flatMap Np.oI=Np.dJ (L.map (·.2)) z:=by
 unfold Np.dJ Np.rI;congr 1
 induction L with
 | nil=>rfl
 | cons x L ih=>
  have hx:=h x (by simp);have ih:=ih (λy hy=>h y (mQ _ hy));rw[List.map_cons,List.filter_cons,List.filter_cons,hx.apex];split
  ·rw[List.map_cons,ih]
  ·exact ih
theorem T8(e:List Value)(h:Np.Hist)(hf:Np.oR h)(SQ:Np.lA h)(z:ByteArray)(hz:z.size<=140737488355328)(hp:(Np.dJ h.copies z.data.toList).length<=5000)(w:World)(hR:iW w w.heap.size)(hP:iX w)(hh:bw w w.heap.size e h) :
 Calls prog 20 #[.agg e.toArray,.string z] w λe w'=>((¬ Np.km h z.data.toList/\e = .returned (.tuple #[.slice none 0 0,.int .i64 1]))\/(Np.km h z.data.toList/\((¬ Np.lD h z.data.toList/\e = .returned (.tuple #[.slice none 0 0,.int .i64 4]))\/(Np.lD h z.data.toList/\∃ v',e = .returned (.tuple #[v',.int .i64 0])/\fP fS 8 0 w.heap.size w' v' (Np.pub h.copies z.data.toList)))))/\Below w.heap.size w w':=by
 have gS:=jq hh;obtain⟨hv,cv,s,dv,cj,rfl,aZ,b7,h3,h4,h5,h6⟩:=hh;obtain⟨ty,dD⟩:∃ ty,h.anchor.type=ty:=⟨_,rfl⟩;obtain⟨life,mu⟩:∃ life,h.anchor.life=life:=⟨_,rfl⟩;obtain⟨drift,pT⟩:∃ drift,h.drift=drift:=⟨_,rfl⟩;obtain⟨stop,gj⟩:∃ stop,h.stop=stop:=⟨_,rfl⟩;have H3:=jq h3;have H4:=jq h4;have H5:=jq h5;have H6:=jq h6;have HS:=jq (And.intro aZ b7);have cR:=jq hf;have ck:=jq gj;have fe:=jq (And.intro dD mu);obtain⟨A1,c1,rfl,_,_⟩:=ag h3;obtain⟨A2,c2,rfl,_,_⟩:=ag h4;obtain⟨A3,c3,rfl,_,_⟩:=ag h5;obtain⟨A4,c4,rfl,_,_⟩:=ag h6;clear h3 h4 h5 h6 aZ b7 hf;obtain⟨n1,aJ⟩:∃ n,h.hosts.length=n:=⟨_,rfl⟩;obtain⟨n2,aK⟩:∃ n,h.copies.length=n:=⟨_,rfl⟩;obtain⟨n3,bk⟩:∃ n,h.anchor.data.length=n:=⟨_,rfl⟩;obtain⟨n4,bl⟩:∃ n,h.hints.length=n:=⟨_,rfl⟩;rw[aJ] at H3;rw[aK] at H4;rw[bk] at H5;rw[bl] at H6;rw[aJ,aK,bk,bl,dD,mu,pT,gj] at gS |-;have iA:=jq aK;clear aJ aK bk bl dD mu pT gj;obtain⟨r,hr⟩:∃ r,Np.yes (Np.VHist h)=r:=⟨_,rfl⟩;have fi:=jq hr;clear hr;obtain⟨X,hX⟩:∃ X,w.heap.size=X:=⟨_,rfl⟩;obtain⟨W1,ae⟩:∃ W1,(((w.alloc (.cells #[.slice A1 n1 c1,.slice A2 n2 c2,.string s,.int .i64 ty,.int .i64 life,.slice A3 n3 c3,.slice A4 n4 c4,.int .i64 drift,.int .i64 stop] 29)).alloc (.cells #[.string z] 9)).alloc (.cells #[.slice none 0 0] 43)).alloc (.cells #[.int .i64 0] 35)=W1:=⟨_,rfl⟩;have aw:Below w.heap.size w W1:=by rw[<-ae]; exact ((((vQ _ _).alloc (bQ _) _).alloc (by simp <;> omega) _).alloc (by simp <;> omega) _).alloc (by simp <;> omega) _
 have eG:W1.heap.size=X+4:=by rw[<-ae,<-hX]; simp
 have k0:W1.cell? ⟨X,0,none⟩=some (.slice A1 n1 c1):=by rw[<-ae,<-hX]; simp[go_sem]
 have k1:W1.cell? ⟨X,1,none⟩=some (.slice A2 n2 c2):=by rw[<-ae,<-hX]; simp[go_sem]
 have k2:W1.cell? ⟨X,2,none⟩=some (.string s):=by rw[<-ae,<-hX]; simp[go_sem]
 have k3:W1.cell? ⟨X,3,none⟩=some (.int .i64 ty):=by rw[<-ae,<-hX]; simp[go_sem]
 have k4:W1.cell? ⟨X,4,none⟩=some (.int .i64 life):=by rw[<-ae,<-hX]; simp[go_sem]
 have k5:W1.cell? ⟨X,5,none⟩=some (.slice A3 n3 c3):=by rw[<-ae,<-hX]; simp[go_sem]
 have k6:W1.cell? ⟨X,6,none⟩=some (.slice A4 n4 c4):=by rw[<-ae,<-hX]; simp[go_sem]
 have k7:W1.cell? ⟨X,7,none⟩=some (.int .i64 drift):=by rw[<-ae,<-hX]; simp[go_sem]
 have k8:W1.cell? ⟨X,8,none⟩=some (.int .i64 stop):=by rw[<-ae,<-hX]; simp[go_sem]
 have kz:W1.cell? ⟨X+1,0,none⟩=some (.string z):=by rw[<-ae,<-hX]; simp[go_sem]
 have HO:Hid (Boxed W1 (X+1+1) 43 (.slice none 0 0)):=jq (by
  rw[<-ae,<-hX]
  have:=(Boxed.new ((w.alloc (.cells #[.slice A1 n1 c1,.slice A2 n2 c2,.string s,.int .i64 ty,.int .i64 life,.slice A3 n3 c3,.slice A4 n4 c4,.int .i64 drift,.int .i64 stop] 29)).alloc (.cells #[.string z] 9)) 43 (.slice none 0 0)).alloc (.cells #[.int .i64 0] 35)
  simpa using this)
 have HE:Hid (Boxed W1 (X+1+1+1) 35 (.int .i64 0)):=jq (by
  rw[<-ae,<-hX]
  have:=Boxed.new (((w.alloc (.cells #[.slice A1 n1 c1,.slice A2 n2 c2,.string s,.int .i64 ty,.int .i64 life,.slice A3 n3 c3,.slice A4 n4 c4,.int .i64 drift,.int .i64 stop] 29)).alloc (.cells #[.string z] 9)).alloc (.cells #[.slice none 0 0] 43)) 35 (.int .i64 0)
  simpa using this)
 have gN:=jq hR;have rk:=jq hP;have IE:=jq SQ;have jD:=jq hp;have AY:Hid (2<w.heap.size):=jq hP.lt;rw[hX] at aw H3 H4 H5 H6 gS gN AY |-;have ay:=jq aw;clear aw hR hP SQ hp;refine (callsIn_wide (n:=0)).1 ?_;refine callsIn_of_wp_marks func20 rfl trivial ?_ rfl;simp only[ntmps20,List.size_toArray,List.length_cons,List.length_nil,Nat.reduceAdd,Nat.reduceSub,Array.replicate_succ,Array.replicate_zero,List.push_toArray,List.append_toArray,List.nil_append,List.cons_append];gi_wp2_with fail;refine⟨trivial,rfl,?_⟩;refine (callsIn_wide.2 (Aa _ h cR.out W1 ((gN.out.keep ay.out).more (by omega)) (cM _ _ _ _ _ (cE _ _ _ _ _ gS.out ay.out) (by omega)))).mono ?_;rw[fi.out];rintro e w2 ⟨rfl,aa⟩;have aN:=aa.size;have m0:=(cl aa (by omega)).trans k0;have m1:=(cl aa (by omega)).trans k1;have m2:=(cl aa (by omega)).trans k2;have m3:=(cl aa (by omega)).trans k3;have m4:=(cl aa (by omega)).trans k4;have m5:=(cl aa (by omega)).trans k5;have m6:=(cl aa (by omega)).trans k6;have m7:=(cl aa (by omega)).trans k7;have m8:=(cl aa (by omega)).trans k8;have mz:=(cl aa (by omega)).trans kz;have aC:Hid (Boxed w2 (X+1+1) 43 (.slice none 0 0)):=jq (fC HO.out aa (by omega));have pK:Hid (Boxed w2 (X+1+1+1) 35 (.int .i64 0)):=jq (fC HE.out aa (by omega));have ak:=jq (ay.out.trans (aa.mono (by omega)));clear aa ae hX k0 k1 k2 k3 k4 k5 k6 k7 k8 kz
 cases r with
 | false=>
  have HN:Hid (¬ Np.VHist h):=jq (λh=>by have:=Np.bO h; rw[fi.out] at this; cases this);have y0:=aC.out.cell;have y1:=aC.out.frozen;have z0:=pK.out.cell;have z1:=pK.out.frozen;gi_wp2_with fail;refine⟨trivial,?_⟩;gi_wp2_with fail;obtain⟨W,hW⟩:∃ W,((w2.setCell ⟨X+1+1,0,none⟩ (.slice none 0 0)).setCell ⟨X+1+1+1,0,none⟩ (.int .i64 1))=W:=⟨_,rfl⟩;have sU:Hid (Below X w W):=jq (by rw[<-hW]; exact ((ak.out.setCell (p:=⟨X+1+1,0,none⟩) (by dsimp only; omega) _).setCell (p:=⟨X+1+1+1,0,none⟩) (by dsimp only; omega) _));have e0:W.cell? ⟨X+1+1,0,none⟩=some (.slice none 0 0):=by rw[<-hW]; simp[go_sem,y0]
  have e1:W.cell? ⟨X+1+1+1,0,none⟩=some (.int .i64 1):=by rw[<-hW]; simp[go_sem,z0]
  rw[hW];exact nJ (v:=.tuple #[.slice none 0 0,.int .i64 1]) (by simp[results,results20,go_sem,e0,e1]) ⟨.inl ⟨λh=>HN.out h.1,rfl⟩,sU.out⟩
 | true=>
  have HV:Hid (Np.VHist h):=jq (Np.eE.1 fi.out);gi_wp2_with fail;refine⟨trivial,rfl,?_⟩;refine (callsIn_wide.2 (nameValid_any z hz _)).mono ?_;rintro e w3 ⟨rfl,ah⟩;have dP:=ah.size;replace m0:=(cl ah (by omega)).trans m0;replace m1:=(cl ah (by omega)).trans m1;replace m2:=(cl ah (by omega)).trans m2;replace m3:=(cl ah (by omega)).trans m3;replace m4:=(cl ah (by omega)).trans m4;replace m5:=(cl ah (by omega)).trans m5;replace m6:=(cl ah (by omega)).trans m6;replace m7:=(cl ah (by omega)).trans m7;replace m8:=(cl ah (by omega)).trans m8;replace mz:=(cl ah (by omega)).trans mz;have eJ:Hid (Boxed w3 (X+1+1) 43 (.slice none 0 0)):=jq (fC aC.out ah (by omega));have IL:Hid (Boxed w3 (X+1+1+1) 35 (.int .i64 0)):=jq (fC pK.out ah (by omega));have av:=jq (ak.out.trans (ah.mono (by omega)));clear ah
  cases bX:Np.aG z.data.toList with
  | false=>
   have dU:=jq bX;clear bX;have y0:=eJ.out.cell;have y1:=eJ.out.frozen;have z0:=IL.out.cell;have z1:=IL.out.frozen;gi_wp2_with fail;obtain⟨W,hW⟩:∃ W,((w3.setCell ⟨X+1+1,0,none⟩ (.slice none 0 0)).setCell ⟨X+1+1+1,0,none⟩ (.int .i64 1))=W:=⟨_,rfl⟩;have sU:Hid (Below X w W):=jq (by rw[<-hW]; exact ((av.out.setCell (p:=⟨X+1+1,0,none⟩) (by dsimp only; omega) _).setCell (p:=⟨X+1+1+1,0,none⟩) (by dsimp only; omega) _));have e0:W.cell? ⟨X+1+1,0,none⟩=some (.slice none 0 0):=by rw[<-hW]; simp[go_sem,y0]
   have e1:W.cell? ⟨X+1+1+1,0,none⟩=some (.int .i64 1):=by rw[<-hW]; simp[go_sem,z0]
   rw[hW];exact nJ (v:=.tuple #[.slice none 0 0,.int .i64 1]) (by simp[results,results20,go_sem,e0,e1]) ⟨.inl ⟨λh=>absurd h.2 (by rw[dU.out]; simp),rfl⟩,sU.out⟩
  | true=>
   have dU:=jq bX;have bZ:Hid (Np.km h z.data.toList):=jq ⟨HV.out,bX⟩;clear bX;have hX4:X+4<=w3.heap.size:=by omega
   have wN:∀ (w:World),(Instr.makeMap 121 none).run prog w = .ok (.map (some w.heap.size)) (w.alloc (.map #[] 0)):=λw=>by
    simp[Instr.makeMap,Result.andThen]
   obtain⟨Bh,sH⟩:∃ Bh,w3.heap.size=Bh:=⟨_,rfl⟩;obtain⟨w4,bN⟩:∃ w4,(((w3.alloc (.cells #[.slice none 0 0] 43)).alloc (.cells #[.bool false] 4)).alloc (.map #[] 0)).alloc (.cells #[.map (some (Bh+1+1))] 121)=w4:=⟨_,rfl⟩;have am:Below w3.heap.size w3 w4:=by rw[<-bN]; exact ((((vQ _ _).alloc (bQ _) _).alloc (by simp) _).alloc (by simp <;> omega) _).alloc (by simp <;> omega) _
   have ga:w4.heap.size=Bh+4:=by rw[<-bN,<-sH]; simp
   have v0:=(cl am (by omega)).trans m0;have v1:=(cl am (by omega)).trans m1;have v2:=(cl am (by omega)).trans m2;have v3:=(cl am (by omega)).trans m3;have v4:=(cl am (by omega)).trans m4;have v5:=(cl am (by omega)).trans m5;have v6:=(cl am (by omega)).trans m6;have v7:=(cl am (by omega)).trans m7;have v8:=(cl am (by omega)).trans m8;have vz:=(cl am (by omega)).trans mz;have zF:Hid (Boxed w4 (X+1+1) 43 (.slice none 0 0)):=jq (fC eJ.out am (by omega));have HE4:Hid (Boxed w4 (X+1+1+1) 35 (.int .i64 0)):=jq (fC IL.out am (by omega));have bD:=jq (av.out.trans (am.mono (by omega)));have aOJ:Hid (Boxed w4 Bh 43 (.slice none 0 0)):=jq (by
    rw[<-bN,<-sH];exact (((Boxed.new w3 43 (.slice none 0 0)).alloc _).alloc _).alloc _)
   have amJ:Hid (Boxed w4 (Bh+1) 4 (.bool false)):=jq (by
    rw[<-bN,<-sH]
    have:=((Boxed.new (w3.alloc (.cells #[.slice none 0 0] 43)) 4 (.bool false)).alloc (.map #[] 0)).alloc (.cells #[.map (some (w3.heap.size+1+1))] 121)
    simpa using this)
   have aHX:Hid (dW (Bh+1+1) [] w4):=jq (by
    rw[<-bN,<-sH]
    have:=(dW.made ((w3.alloc (.cells #[.slice none 0 0] 43)).alloc (.cells #[.bool false] 4))).stays (w':=((((w3.alloc (.cells #[.slice none 0 0] 43)).alloc (.cells #[.bool false] 4)).alloc (.map #[] 0)).alloc (.cells #[.map (some (w3.heap.size+1+1))] 121))) (Below.heap_alloc _ _ _ (by simp))
    simpa using this)
   have FC:Hid (Boxed w4 (Bh+1+1+1) 121 (.map (some (Bh+1+1)))):=jq (by
    rw[<-bN,<-sH]
    have:=Boxed.new (((w3.alloc (.cells #[.slice none 0 0] 43)).alloc (.cells #[.bool false] 4)).alloc (.map #[] 0)) 121 (.map (some (w3.heap.size+1+1)))
    simpa using this)
   clear m0 m1 m2 m3 m4 m5 m6 m7 m8 mz;gi_wp2_with fail;clear wN am;refine⟨trivial,rfl,?_⟩;refine (callsIn_wide.2 (GN _ _ _ _ _ _ _ _ _ 64 #[.pointer (some ⟨X+1,0,none⟩)] w4)).mono ?_;rintro e w6 ⟨rfl,cr⟩;have gP:w6.heap.size=Bh+6:=by rw[cr]; simp; omega
   have aW:Below w4.heap.size w4 w6:=by rw[cr]; exact ((vQ _ _).alloc (bQ _) _).alloc (by simp) _
   have kX:w6.cell? ⟨Bh+4,1,none⟩=some (.slice A2 n2 c2):=by rw[cr,<-ga]; simp[go_sem]
   have kO:w6.cell? ⟨Bh+4+1,0,none⟩=some (.func (.func 64) #[] #[.pointer (some ⟨X+1,0,none⟩)]):=by rw[cr,show Bh+4+1=w4.heap.size+1 by omega]; simp[go_sem]
   rw[ga];obtain⟨L,iH,pL,pg⟩:=Ih (H4.out.keep fk (bD.out.trans (aW.mono (by omega))));have wV:=jq ((cl aW (by omega)).trans vz);have CG:=jq (Gy L (λx=>x.1.str.data.toList == z.data.toList) 64 #[.pointer (some ⟨X+1,0,none⟩)] (Bh+4) (Bh+4+1) n2 c2 (λk=>k<w6.heap.size/\¬ (k=Bh\/k=Bh+1\/k=Bh+1+1)) A2 w6 ⟨by omega,by omega⟩ ⟨by omega,by omega⟩ kX kO pL (by have:=cR.out.1; have:=iA.out; omega)
    (λi x hx=>by
      obtain⟨_,b,o,h1,h2,h3⟩:=pg i x hx;exact⟨b,o,h1,⟨by omega,by omega⟩,h3⟩) VH
    (λx hx W hW=>by
      have h1:=(hW.cell (p:=⟨X+1,0,none⟩) ⟨by dsimp only; omega,by dsimp only; omega⟩).trans wV.out
      have:=hW.1
      exact YE x.1.host x.1.frm x.1.til x.1.str _ x.1.A x.1.n x.1.c rfl (X+1) z W (by omega) h1))
   have IF:Hid (Boxed w6 (X+1+1) 43 (.slice none 0 0)):=jq (fC zF.out aW (by omega));have HE6:Hid (Boxed w6 (X+1+1+1) 35 (.int .i64 0)):=jq (fC HE4.out aW (by omega));have akQ:Hid (Boxed w6 Bh 43 (.slice none 0 0)):=jq (fC aOJ.out aW (by omega));have amY:Hid (Boxed w6 (Bh+1) 4 (.bool false)):=jq (fC amJ.out aW (by omega));have aUK:Hid (dW (Bh+1+1) [] w6):=jq (aHX.out.keep aW (by omega));have Ks:Hid (Boxed w6 (Bh+1+1+1) 121 (.map (some (Bh+1+1)))):=jq (fC FC.out aW (by omega));have cY:=jq (bD.out.trans (aW.mono (by omega)));have l9:=jq iH;have oS:Hid (∀ x∈L,CVOf w6 X x.1 x.2):=jq (λx hx=>by obtain⟨i,hi⟩:=List.mem_iff_getElem?.1 hx; exact (pg i x hi).1);clear aW cr bN kX kO iH pg v0 v1 v2 v3 v4 v5 v6 v7 v8 vz;have RV:=jq gP;gi_wp2_with fail;refine Gk (Dr:=λk=>k<w6.heap.size/\¬ (k=Bh\/k=Bh+1\/k=Bh+1+1)) (w0:=w6) (first:=#[]) (captured:=#[.pointer (some ⟨Bh+4,0,none⟩),.pointer (some ⟨Bh+4+1,0,none⟩)]) (gf:=91) rfl Gx (mk:=λy=>#[y,.pointer (some ⟨Bh+4,0,none⟩),.pointer (some ⟨Bh+4+1,0,none⟩)]) (λ_=>rfl)
    CG.out (gt.refl λk e=>e.1) (λ_=>rfl) (Em w6 Bh (Bh+1) (Bh+1+1) z) (λ_ _ _ _=>False)
    (MK _ _ _ _ _) (λc s S W W' h _=>h)
    (λk=>k=Bh\/k=Bh+1\/k=Bh+1+1) (λk h1 h2=>h2.2 h1) (by intro k h; omega)
    ⟨[],.slice none 0 0,λk=>k=Bh\/k=Bh+1\/k=Bh+1+1\/¬ (k=Bh\/k=Bh+1\/k=Bh+1+1),.inl rfl,.inr (.inl rfl),.inr (.inr rfl),(λk e=>by rcases e with e | ⟨x,hx,_⟩; cases e; cases hx),(λk e=>by omega),(λk e=>.inr (.inr (.inr e))),.inl rfl,.inr (.inl rfl),.inr (.inr (.inl rfl)),akQ.out,amY.out,aUK.out,PubR.nil _ _ _ _,rfl,RdStep.refl _ _⟩ ?round ?done ?stop
   case stop=>
    rintro D c pre S W hD g9 bM jf h hK;exact h.elim
   case done=>
    rintro D S W hD g9 bM ⟨us,ov,M,Ew,B6,FD,hown,pO,Co,mbo,mbt,mbm,BK,rZ,uy,zu,zl,bA⟩ hK;obtain⟨te,I7⟩:∃ te,(L.filter λx=>x.1.str.data.toList == z.data.toList).isEmpty=te:=⟨_,rfl⟩;have C3:Hid (Np.lD h z.data.toList↔te=false):=jq (by
     rw[<-I7,List.isEmpty_eq_false_iff_exists_mem];constructor
     ·rintro⟨c,hc,hz⟩;rw[<-l9.out] at hc;obtain⟨x,hx,rfl⟩:=List.mem_map.1 hc;exact⟨x,List.mem_filter.2 ⟨hx,by rw[(oS.out x hx).apex,hz]; simp⟩⟩
     ·rintro⟨x,hx⟩;obtain⟨h1,h2⟩:=List.mem_filter.1 hx;refine⟨x.2,by rw[<-l9.out]; exact List.mem_map.2 ⟨x,h1,rfl⟩,?_⟩;rw[<-(oS.out x h1).apex];simpa using h2)
    rw[I7] at rZ;have mA:Hid (us.map (λx=>(x.1,x.2.1))=Np.eX (Np.dJ h.copies z.data.toList)):=jq (by rw[zl,Mo oS.out,l9.out]);have zg:=bA.size;have Tk:Hid (D<W.heap.size):=jq (eQ.1 hK).1;have sO:Below X w6 W:=bA.below (by omega) (λk e=>by omega);have S5:Hid (Below X w W):=jq (cY.out.trans (sO.mono (by omega)));have gY:Hid (Boxed W (X+1+1) 43 (.slice none 0 0)):=jq ((bA.keep (X+1+1) (by omega) (by omega)).trans IF.out);have tg:Hid (Boxed W (X+1+1+1) 35 (.int .i64 0)):=jq ((bA.keep (X+1+1+1) (by omega) (by omega)).trans HE6.out);have JI:=jq BK;have sP:=jq g9;have eu:=jq pO;have Ft:=jq hK;have yG:=jq (PubK.start zu Co hown);have t0:=rZ.cell;clear I7 zl bA sO BK rZ uy zu Co hown pO g9 hK mbo mbt mbm Ew B6 FD bM;have pb:X+1+1≠D:=by omega
    have Ev:X+1+1+1≠D:=by omega
    cases te with
    | true=>
     simp only[Bool.not_true] at t0;have o0:=gY.out.cell;have o1:=gY.out.frozen;have q0:=tg.out.cell;have q1:=tg.out.frozen;gi_wp2_with fail;obtain⟨W',hW'⟩:∃ W',((W.setCell ⟨X+1+1,0,none⟩ (.slice none 0 0)).setCell ⟨X+1+1+1,0,none⟩ (.int .i64 4))=W':=⟨_,rfl⟩;have ph:W'.heap.size=W.heap.size:=by rw[<-hW']; simp
     have iv:∀ k,k≠X+1+1->k≠X+1+1+1->W'.heap[k]?=W.heap[k]?:=λk h1 h2=>by rw[<-hW']; exact (wQ _ _ _ k h2).trans (wQ _ _ _ k h1)
     have Cq:Below X w W':=by rw[<-hW']; exact ((S5.out.setCell (p:=⟨X+1+1,0,none⟩) (by dsimp only; omega) _).setCell (p:=⟨X+1+1+1,0,none⟩) (by dsimp only; omega) _)
     have iS:W'.os=W.os/\W'.tape=W.tape/\W'.output=W.output:=by rw[<-hW']; simp[World.setCell]
     have Bj:W'.heap[D]?=some (.deferred (some [])):=(iv D (Ne.symm pb) (Ne.symm Ev)).trans Ft.out;have e0:W'.cell? ⟨X+1+1,0,none⟩=some (.slice none 0 0):=by rw[<-hW']; simp[go_sem,o0]
     have e1:W'.cell? ⟨X+1+1+1,0,none⟩=some (.int .i64 4):=by rw[<-hW']; simp[go_sem,q0]
     have f0:=(iQ (w:=W') (w':=W'.putObj D (.deferred none)) (a:=⟨X+1+1,0,none⟩) (zQ pb)).trans e0;have f1:=(iQ (w:=W') (w':=W'.putObj D (.deferred none)) (a:=⟨X+1+1+1,0,none⟩) (zQ Ev)).trans e1;rw[hW'];refine pI Bj (v:=.tuple #[.slice none 0 0,.int .i64 4]) (by simp[results,results20,go_sem,f0,f1]) ⟨.inr ⟨bZ.out,.inl ⟨(λh=>by have:=C3.out.1 h; cases this),rfl⟩⟩,py Cq (by omega) _⟩
    | false=>
     simp only[Bool.not_false] at t0;obtain⟨n,hn⟩:∃ n,us.length=n:=⟨_,rfl⟩;obtain⟨oA,oc,rfl⟩:=yG.out.rows.row.formN hn;have Rv:=jq hn;have b0:=JI.out.cell;obtain⟨PS,FP⟩:∃ PS,Np.dJ h.copies z.data.toList=PS:=⟨_,rfl⟩;have s9:=jq FP;rw[FP] at mA;have Fs:Hid ((Np.eX PS).length=n):=jq (by rw[<-mA.out,List.length_map]; exact hn);have yU:n<=5000:=by rw[<-hn]; have h1:=O5 mA.out; have h2:=jD.out; rw[FP] at h2; omega
     clear hn FP;gi_wp2_with fail;gi_loopw [83] (λI wr=>∃ (i:Nat) (us':List PT) (ov':Value) (M':Nat->Prop),i<=n/\I = .int .i64 i/\W.heap.size<=wr.heap.size/\Hid (us'.length=n)/\Hid (Boxed wr Bh 43 ov')/\Hid (PubK S W w6.heap.size z M' us' ov' wr)/\Hid (us'.map (λx=>(x.1,x.2.1))=qE (Np.eX PS) i)) (λI _=>n - (intOf I).toNat)
     case atStart=>exact⟨0,us,_,_,jQ _,rfl,bQ _,Rv,JI,yG,jq (by rw[XE]; exact mA.out)⟩
     case round=>
      clear JI yG mA Rv b0 t0;obtain⟨i,us',ov',M',hi,rfl,E9,yX,zB,iy,JU⟩:=hrel;by_cases ab:i<n
      ·obtain⟨g,cap,rfl,fy,EJ,pM⟩:=iy.out.rows.row.formSome yX.out (by omega);have Q4:Hid (i<(Np.eX PS).length):=jq (by rw[Fs.out]; exact ab);obtain⟨⟨xs,xt,xv⟩,hx,hl⟩:=O4 JU.out Q4.out;dsimp only at hl;have E4:=Np.N5 hl;have tX:aI w6.heap.size wr xv xt:=iy.out.rows.fresh _ (gQ hx);have ui:Hid (SlR cV 2 wr wr.heap.size xv xt):=jq (tX.slr (by have h1:=Np.GX PS xs; rw[<-E4] at h1; have h2:=jD.out; rw[s9.out] at h2; omega));have ahY:Hid (∀ s∈xt,Np.El s):=jq (λs hs=>Np.YD (h:=h) (zone:=z.data.toList) (s:=xs) (by rw[s9.out,<-E4]; exact hs) HV.out);have awZ:Hid (xt.length<=20000):=jq (by have h1:=Np.GX PS xs; rw[<-E4] at h1; have h2:=jD.out; rw[s9.out] at h2; omega);have HX:=jq hx;obtain⟨fA,fc,rfl⟩:=aI.form tX;have f6:wr.cell? ⟨g,i * 8+6,none⟩=some (.slice fA xt.length fc):=Ho iy.out.rows.row hx;obtain⟨fn,gK⟩:∃ fn,xt.length=fn:=⟨_,rfl⟩;rw[gK] at f6 HX ui;have b6:=zB.out.cell;have kJ:(0:Int)<=(i:Int):=by omega
       have gO:(i:Int)<(n:Int):=by omega
       clear hx hl E4 tX gK pM;gi_wp2_with fail;refine yh λa0 bi=>?_;have jg:=jq bi;have iM:=jq (show a0.eval (.tmp 6) = .pointer (some ⟨Bh,0,none⟩) by rw[bi]; rfl);have Ti:=jq (show a0.eval (.tmp 15) = .int .i64 (i:Nat) by rw[bi]; rfl);have HM:=jq (show a0.tmps.size=101 by rw[bi]; rfl);clear bi;refine wpIn_wide.2 (wp_region_any (by kernel_rfl) ?_);refine Na (w:=wr.drew) (D:=[0,1,2,3,4,5,6,11,12]) (A:=[]) (p:=7) (dst:=mc) (val:=nA g n cap i fA fn fc undef) (m:=101)
        (base:=dt a0 101 G4) (GB (by kernel_rfl)) (by simp) (by simp) (fD (by kernel_rfl)) ?_
        (λi hi=>(x7 i (by simp at hi |-; omega)).1) (λi hi j hj=>De i (by simp at hi |-; omega) j (by simp at hj |-; omega)) (λi hi=>cx (x7 i (by simp at hi |-; omega)).2) ?_ ?_ _ _ _ (Held.start (λq hq=>pw q hq) HM.out)
       ·intro i hi ar;simp only[List.mem_cons,Qh,or_false] at hi;rcases hi with rfl | rfl | rfl | rfl | rfl | rfl | rfl | rfl | rfl
        all_goals first | (exfalso; simp at ar; done) | exact⟨_,rfl,rfl⟩
       ·intro i hi ar o ho a' hb aR;have k6':=(aT hb (j:=6) (by decide) (by decide)).trans iM.out;have k15':=(aT hb (j:=15) (by decide) (by decide)).trans Ti.out;simp[Act.eval] at k6' k15';simp only[List.mem_cons,Qh,or_false] at hi;rcases hi with rfl | rfl | rfl | rfl | rfl | rfl | rfl | rfl | rfl
        all_goals first
         | (exfalso; simp at ar; done)
         | (cases ho
            try simp[Act.eval,Region.binds,nA,mc] at aR
            refine .inl ⟨by simp[Region.wanted],λw' hw'=>?_⟩;subst hw';simp[Oper.quietAt,Oper.quietUpon,execOp,go_sem,nA,k6',k15',b6,f6,kJ,gO,AI,D8,aR])
       ·intro f listed a' hH hr;obtain⟨_,o,ho,ax⟩:=mem_ready.1 hr
        cases ho
        have hG:=hH.good;have hval:=λi hi hl=>hG.val i hi hl;have bB:∀ k,({ on:=k,ground:=.data } : Edge)∈_->listed.getD k false=true:=λk hk=>ax _ hk rfl;have av6:=hval 6 (by simp) (bB 6 (by simp));simp[Act.eval,nA,mc] at av6;simp only[wpOp];simp[Region.wanted];refine .inl ?_;simp[Oper.wp,go_sem,av6];refine (Nr _ xt awZ.out ahY.out wr.drew (ui.out.keep fE (vQ wr.heap.size wr).drew)).mono ?_;rintro e wC ⟨v2,rfl,iY,Bn⟩;have kI:Below wr.heap.size wr wC:=(vQ wr.heap.size wr).drew.trans Bn;have hzC:=kI.size;replace b6:=(cl kI (by omega)).trans b6;replace f6:=(cl kI (by omega)).trans f6;have sT:=(World.frozen?_of_block (a:=⟨g,i * 8+6,none⟩) (kI.block g (by omega))).trans (iy.out.rows.row.frozenAt yX.out _);obtain⟨gA,gc,rfl⟩:=aI.form iY;obtain⟨gn,oh⟩:∃ n,(Np.bq xt).length=n:=⟨_,rfl⟩;rw[oh] at iY |-;have aC:=jq iY;have gC:=jq kI;clear iY kI Bn oh;dsimp only;refine Na (w:=wC) (D:=[0,1,2,3,4,5,6,8,9,10,11,12,7]) (A:=[7]) (p:=13) (dst:=mc) (val:=nA g n cap i fA fn fc (.tuple #[.slice gA gn gc,.int .i64 0])) (m:=101)
         (base:=dt a0 101 G4) (GB (by kernel_rfl)) (by simp) (by simp) (fD (by kernel_rfl)) ?_
         (λi hi=>(x7 i (by simp at hi |-; omega)).1) (λi hi j hj=>De i (by simp at hi |-; omega) j (by simp at hj |-; omega)) (λi hi=>cx (x7 i (by simp at hi |-; omega)).2) ?_ ?_ _ _ _ (hH.act (D':=[0,1,2,3,4,5,6,8,9,10,11,12,7]) (val':=nA g n cap i fA fn fc (.tuple #[.slice gA gn gc,.int .i64 0])) hr (by simp) (λi hi=>by simp at hi |-; omega) (λi hi=>by simp at hi; rcases hi with rfl | rfl | rfl | rfl | rfl | rfl | rfl | rfl | rfl <;> rfl) rfl (by simp[mc]) (λj hj=>De 7 (by simp) j (by simp at hj |-; omega) (by rintro rfl; simp at hj)) (cx (x7 7 (by simp)).2) (by simp))
        ·intro i hi ar;simp only[List.mem_cons,Qh,or_false] at hi;rcases hi with rfl | rfl | rfl | rfl | rfl | rfl | rfl | rfl | rfl | rfl | rfl | rfl | rfl
         all_goals first | (exfalso; simp at ar; done) | exact⟨_,rfl,rfl⟩
        ·intro i hi ar o ho a' hb aR;have k6':=(aT hb (j:=6) (by decide) (by decide)).trans iM.out;have k15':=(aT hb (j:=15) (by decide) (by decide)).trans Ti.out;simp[Act.eval] at k6' k15';simp only[List.mem_cons,Qh,or_false] at hi;rcases hi with rfl | rfl | rfl | rfl | rfl | rfl | rfl | rfl | rfl | rfl | rfl | rfl | rfl
         all_goals first
          | (exfalso; simp at ar; done)
          | (cases ho
             try simp[Act.eval,Region.binds,nA,mc] at aR
             refine .inl ⟨by simp[Region.wanted],λw' hw'=>?_⟩;subst hw';simp[Oper.quietAt,Oper.quietUpon,execOp,go_sem,nA,k6',k15',b6,f6,kJ,gO,AI,D8,aR])
        ·intro f listed a' hH hr;obtain⟨_,o,ho,ax⟩:=mem_ready.1 hr
         cases ho
         have hG:=hH.good;have hval:=λi hi hl=>hG.val i hi hl;have bB:∀ k,({ on:=k,ground:=.data } : Edge)∈_->listed.getD k false=true:=λk hk=>ax _ hk rfl;have av9:=hval 9 (by simp) (bB 9 (by simp));have av12:=hval 12 (by simp) (bB 12 (by simp));simp[Act.eval,nA,mc,AI] at av9 av12;simp only[wpOp];simp[Region.wanted];refine .inl ?_;simp[Oper.wp,execOp,go_sem,av9,av12,f6,sT];clear b6 f6 sT;obtain⟨W',hW'⟩:∃ W',wC.setCell ⟨g,i * 8+6,none⟩ (.slice gA gn gc)=W':=⟨_,rfl⟩;have Qf:=jq (iy.out.normed yX.out HX.out (ps':=Np.bq xt) gC.out aC.out (by have:=iy.out.rd.size; omega));rw[hW'] at Qf |-;have eF:Below w6.heap.size wr W':=by rw[<-hW']; exact (gC.out.mono (by have:=iy.out.rd.size; omega)).setCell (by dsimp only; omega) _
         have E0:Hid (Boxed W' Bh 43 (.slice (some ⟨g,0,none⟩) n cap)):=jq (fC zB.out eF (by omega));clear eF;have PK:W'.heap.size=wC.heap.size:=by rw[<-hW']; simp[World.setCell]
         refine VS (R:=[10]) (D:=[0,1,2,3,4,5,6,8,9,10,11,12,7]) (dst:=mc) (val:=nA g n cap i fA fn fc (.tuple #[.slice gA gn gc,.int .i64 0])) (a0:=a0) (m:=101) HM.out (GB (by kernel_rfl)) (by simp) (λi hi=>?_) (λi hi=>by simp at hi; subst hi; exact⟨_,rfl,rfl⟩) (λi hi=>(x7 i hi).1) De (λi hi o ho e he hb=>?_) (λi hi o ho a' aR=>?_) ?_ _ _ _ (hH.rest hr (by simp) (by kernel_rfl))
         ·simp at hi |-;omega
         ·simp at hi;subst hi
          cases ho
          simp at he;rcases he with rfl | rfl
          ·simp
          ·simp[Region.binds] at hb
         ·simp at hi;subst hi
          cases ho
          simp[Act.eval,Region.binds,nA,mc] at aR;refine .inl ⟨by simp[Region.wanted],λw' hw'=>?_⟩;subst hw';simp[Oper.quietAt,Oper.quietUpon,execOp,go_sem,nA,AI,D8,aR]
         ·rw[jg.out];simp[jJ,Act.put,nA,mc];clear hval bB ax hG hH;gi_wp2_with fail;go_roundw
          case measure=>simp[intOf] <;> omega
          case rel=>exact⟨i+1,_,_,_,by omega,by go_num,by omega,jq (by rw[List.length_set]; exact yX.out),E0,Qf,jq (YN JU.out Q4.out HX.out _)⟩
      ·obtain rfl:i=n:=by omega
       obtain⟨oA',oc',rfl⟩:=iy.out.rows.row.formN yX.out;have b0:=zB.out.cell;have SC:¬ S (X+1+1):=λe=>by have:=eu.out _ e; omega
       have Q9:¬ S (X+1+1+1):=λe=>by have:=eu.out _ e; omega
       have F0:Hid (Boxed wr (X+1+1) 43 (.slice none 0 0)):=jq ((iy.out.rd.keep (X+1+1) (by omega) SC).trans gY.out);have SY:Hid (Boxed wr (X+1+1+1) 35 (.int .i64 0)):=jq ((iy.out.rd.keep (X+1+1+1) (by omega) Q9).trans tg.out);have yE:Hid (wr.heap[D]?=some (.deferred (some []))):=jq ((iy.out.rd.keep D Tk.out sP.out).trans Ft.out);have aO:Hid (Below X w wr):=jq (S5.out.trans (iy.out.rd.below (by omega) (λk e=>by have:=eu.out k e; omega)));have o0:=F0.out.cell;have o1:=F0.out.frozen;have q0:=SY.out.cell;have q1:=SY.out.frozen;gi_wp2_with fail;obtain⟨W',hW'⟩:∃ W',((wr.setCell ⟨X+1+1,0,none⟩ (.slice oA' i oc')).setCell ⟨X+1+1+1,0,none⟩ (.int .i64 0))=W':=⟨_,rfl⟩;have ph:W'.heap.size=wr.heap.size:=by rw[<-hW']; simp
       have iv:∀ k,k≠X+1+1->k≠X+1+1+1->W'.heap[k]?=wr.heap[k]?:=λk h1 h2=>by rw[<-hW']; exact (wQ _ _ _ k h2).trans (wQ _ _ _ k h1)
       have Cq:Below X w W':=by rw[<-hW']; exact ((aO.out.setCell (p:=⟨X+1+1,0,none⟩) (by dsimp only; omega) _).setCell (p:=⟨X+1+1+1,0,none⟩) (by dsimp only; omega) _)
       have iS:W'.os=wr.os/\W'.tape=wr.tape/\W'.output=wr.output:=by rw[<-hW']; simp[World.setCell]
       have Bj:W'.heap[D]?=some (.deferred (some [])):=(iv D (Ne.symm pb) (Ne.symm Ev)).trans yE.out;have e0:W'.cell? ⟨X+1+1,0,none⟩=some (.slice oA' i oc'):=by rw[<-hW']; simp[go_sem,o0]
       have e1:W'.cell? ⟨X+1+1+1,0,none⟩=some (.int .i64 0):=by rw[<-hW']; simp[go_sem,q0]
       have f0:=(iQ (w:=W') (w':=W'.putObj D (.deferred none)) (a:=⟨X+1+1,0,none⟩) (zQ pb)).trans e0;have f1:=(iQ (w:=W') (w':=W'.putObj D (.deferred none)) (a:=⟨X+1+1+1,0,none⟩) (zQ Ev)).trans e1;rw[hW'];have zL:∀ k,k≠X+1+1->k≠X+1+1+1->k≠D->(W'.putObj D (.deferred none)).heap[k]?=wr.heap[k]?:=λk h1 h2 h3=>(zQ h3).trans (iv k h1 h2);have yO:(W'.putObj D (.deferred none)).heap.size=wr.heap.size:=by simpa using ph
       have xq:=jq (iy.out.calm (T:=λk=>k=X+1+1\/k=X+1+1+1\/k=D) (λk e=>by
        rcases e with rfl | rfl | rfl
        ·exact⟨by omega,SC⟩
        ·exact⟨by omega,Q9⟩
        ·exact⟨Tk.out,sP.out⟩) (w':=W'.putObj D (.deferred none)) iS yO (λk hk=>zL k (λe=>hk (.inl e)) (λe=>hk (.inr (.inl e))) (λe=>hk (.inr (.inr e)))))
       refine pI Bj (v:=.tuple #[.slice oA' i oc',.int .i64 0]) (by simp[results,results20,go_sem,f0,f1]) ⟨.inr ⟨bZ.out,.inr ⟨(by have h1:=C3.out; simpa using h1),_,rfl,?_⟩⟩,py Cq (by omega) _⟩;intro Mq zG;have ue:=yX.out;have PH:us'.map (λx=>(x.1,x.2.1))=(Np.eX PS).map λx=>(x.1,Np.bq x.2):=by rw[JU.out,YO Fs.out]
       have aJY:(us'.map λx=>(⟨z.data.toList,x.1,x.2.1,[]⟩:Np.Held))=Np.pub h.copies z.data.toList:=by
        have h1:=Qd (List.map λx:Np.Signed×List Np.Span=>(⟨z.data.toList,x.1,x.2,[]⟩:Np.Held)) PH;rw[List.map_map,List.map_map] at h1;refine Eq.trans h1 ?_;rw[<-s9.out];exact (Np.WA Np.bq _ _).symm
       rw[<-aJY];exact xq.out.slr hz (by omega) (λx hx=>by
        have h1:(x.1,x.2.1)∈us'.map (λx=>(x.1,x.2.1)):=List.mem_map.2 ⟨x,hx,rfl⟩;rw[PH] at h1;obtain⟨y,hy,he⟩:=List.mem_map.1 h1;simp only[Prod.mk.injEq] at he;rw[<-he.2];obtain⟨j,hj⟩:=List.mem_iff_getElem?.1 hy;have h2:=qv y.2;have h3:=Np.GX PS y.1;rw[<-Np.N5 hj] at h3;have h4:=jD.out;rw[s9.out] at h4;omega) (λk hk=>by
        have h1:=zG k hk;refine⟨iy.out.ex k (by omega) (λe=>by have:=eu.out k e; omega),λe=>by have:=(xq.out.lt e).1; omega⟩)
   case round=>
    rintro l0 pre ⟨⟨xh,xf,xt,xs,xA,xn,xc⟩,cc⟩ S W cC hI gk;have wn:Hid ((⟨⟨xh,xf,xt,xs,xA,xn,xc⟩,cc⟩:CV×Np.Copy)∈L):=jq ((List.mem_filter.1 (cC.subset (by simp:(⟨⟨xh,xf,xt,xs,xA,xn,xc⟩,cc⟩:CV×Np.Copy)∈_))).1);have mp:=Wv hI ((vQ _ W).alloc (bQ _) (.cells #[.int .i64 xh,.int .i64 xf,.int .i64 xt,.string xs,.slice xA xn xc] 58));have zg:w6.heap.size<=W.heap.size:=by obtain⟨_,_,_,_,_,_,_,_,_,_,_,_,_,_,_,_,_,hB⟩:=hI; exact hB.size
    have JP:=jq cC;clear hI cC;gi_wp2;refine⟨λk=>S k\/k=W.heap.size,(RdStep.refl S W).alloc _,λk e=>e.imp id (λh=>by omega),λk e=>by rcases e with e | e; have:=gk k e; simp; omega; simp; omega,?_⟩;intro l W₂ aB;have Ju:=MK w6 Bh (Bh+1) (Bh+1+1) z pre S _ W₂ mp (aB.weaken (bQ _) (λk e=>.inl e));have lk:=aB.size;simp only[World.size_alloc] at lk;have dX:W₂.heap[W.heap.size]?=some (.cells #[.int .i64 xh,.int .i64 xf,.int .i64 xt,.string xs,.slice xA xn xc] 58):=(aB.keep W.heap.size (by simp) (.inr (.inr rfl))).trans (heap_alloc_new _ _);obtain⟨us,ov,M,Ew,B6,FD,hown,pO,Co,mbo,mbt,mbm,BK,rZ,uy,zu,zl,bA⟩:=Ju;have auY:Hid (∀ k,S k->k<W.heap.size):=jq gk;have eu:=jq pO;have uC:=jq (And.intro Ew (And.intro B6 FD));have rj:Hid (CVOf w6 X ⟨xh,xf,xt,xs,xA,xn,xc⟩ cc):=jq (oS.out _ wn.out);have sO:Below X w6 W₂:=bA.below (by omega) (λk e=>by omega);have avQ:=jq (cY.out.trans sO);have Kl:=jq bA;obtain⟨sets,po⟩:∃ sets,cc.zone.sets=sets:=⟨_,rfl⟩;have wH:=jq po;have Jl:Hid (SlR bK 5 W₂ X (.slice xA xn xc) sets):=jq (by have:=(rj.out.keep sO).sets; rw[po] at this; exact this);have qf:sets.length=xn:=by rw[<-po]; exact rj.out.len
    have rv:=jq qf;have uf:cc∈h.copies:=by rw[<-l9.out]; exact List.mem_map.2 ⟨_,wn.out,rfl⟩
    have lJ:=jq uf;have Qu:xn<=20000:=by rw[<-qf,<-po]; exact cR.out.2 cc uf
    have PY:Np.im cc=⟨xf,xt⟩:=by
     have h1:=rj.out.frm;have h2:=rj.out.til;dsimp only at h1 h2;unfold Np.im;rw[h1,h2]
    obtain⟨PP,Jy⟩:∃ PP,(pre.map (·.2)).flatMap Np.oI=PP:=⟨_,rfl⟩;rw[Jy] at zl;have rr:Hid (((pre ++ [((⟨xh,xf,xt,xs,xA,xn,xc⟩,cc):CV×Np.Copy)]).map (·.2)).flatMap Np.oI=PP++sets.map λs=>((⟨xf,xt⟩:Np.Span),s)):=jq (by
     rw[List.map_append,List.flatMap_append,Jy];simp[Np.oI,PY,po])
    have QX:Hid (∃ c,Np.dJ h.copies z.data.toList=(PP++sets.map λs=>((⟨xf,xt⟩:Np.Span),s))++c):=jq (by
     obtain⟨c,hc⟩:=UK JP.out;rw[rr.out,Mo oS.out,l9.out] at hc;exact⟨c,hc⟩)
    have Ql:Hid (∀ j,(psP PP ⟨xf,xt⟩ sets j).length<=5000):=jq (λj=>by
     obtain⟨c,hc⟩:=QX.out;have h1:=Qd List.length hc;have h2:=Zo PP ⟨xf,xt⟩ sets j;have h3:=jD.out;rw[List.length_append] at h1;omega)
    have aSY:Hid (∀ j,∀ p∈psP PP ⟨xf,xt⟩ sets j,Np.Plain47 p.2):=jq (λj p hp=>by
     obtain⟨c,hc⟩:=QX.out;have h1:p∈Np.dJ h.copies z.data.toList:=by rw[hc]; exact List.mem_append.2 (.inl (Zn hp))
     obtain⟨d,hd,_,hs,_⟩:=Np.tA.1 h1;exact Np.M7 (HV.out.each d hd).zone hs (IE.out d hd _ hs))
    obtain⟨w7,gb⟩:∃ w7,W₂.setCell ⟨Bh+1,0,none⟩ (.bool true)=w7:=⟨_,rfl⟩;have t7:Turned (Bh+1) W₂ w7:=by rw[<-gb]; exact⟨rfl,rfl,rfl,by simp[World.setCell],λi hi=>wQ _ _ _ _ hi⟩
    have lM:w7.heap.size=W₂.heap.size:=t7.size;have aQY:=rZ.cell;have a3Y:=rZ.frozen;have Rp:Hid (Boxed w7 (Bh+1) 4 (.bool true)):=jq (by rw[<-gb]; exact rZ.set _);have PU:Hid (Boxed w7 Bh 43 ov):=jq ((t7.block Bh (by omega)).trans BK);have Qw:Hid (dW (Bh+1+1) (Np.nE (us.map (·.1))) w7):=jq (uy.stays (t7.block _ (by omega)));have nu:=jq dX;have Rr:=(t7.block W.heap.size (by omega)).trans dX;have QS:Hid (PubK S W₂ w6.heap.size z (λk=>M k/\k<W₂.heap.size) us ov w7):=jq ((PubK.start zu Co hown).touch ⟨mbt,rZ.lt⟩ (.inl B6) (λe=>by have:=(zu.lt e).1; omega) t7);have FV:w7.cell? ⟨W.heap.size,4,none⟩=some (.slice xA xn xc):=by simp[World.cell?,Rr]
    have Rw:Hid (W₂.heap[X+1]?=w6.heap[X+1]?/\W₂.heap[Bh+1+1+1]?=w6.heap[Bh+1+1+1]?):=jq ⟨bA.keep _ (by omega) (by omega),bA.keep _ (by omega) (by omega)⟩;have Sl:Hid ((M Bh/\Bh<W₂.heap.size)/\(M (Bh+1+1)/\Bh+1+1<W₂.heap.size)/\(M (Bh+1)/\Bh+1<W₂.heap.size)):=jq ⟨⟨mbo,by omega⟩,⟨mbm,by omega⟩,⟨mbt,by omega⟩⟩;have Qy:=jq zl;have hXW:X+4<=Bh:=by omega
    have vM:Bh+6<=W.heap.size:=by omega
    have LI:W.heap.size<W₂.heap.size:=by omega
    have QN:¬ S W.heap.size:=λe=>by have:=gk _ e; omega
    have EQ:=jq QN;clear Jy po BK rZ uy zu zl bA t7 dX Rr mp aB gk pO Co mbo mbt mbm hown Ew B6 FD sO PY uf QN;gi_wp2_with fail;clear gb FV aQY a3Y;obtain⟨ih,hih,ayJ,aKQ,aCX⟩:=info_parts Tryz.infoHeldA;gi_loopw [33] (λi wr=>∃ (j:Nat) (us:List PT) (ov:Value) (M:Nat->Prop),j<=xn/\i = .int .i64 j/\W₂.heap.size<=wr.heap.size/\Hid (Boxed wr Bh 43 ov)/\Hid (Boxed wr (Bh+1) 4 (.bool true))/\Hid (dW (Bh+1+1) (Np.nE (us.map (·.1))) wr)/\Hid (PubK S W₂ w6.heap.size z M us ov wr)/\Hid (M Bh/\M (Bh+1+1)/\M (Bh+1))/\Hid (us.map (λx=>(x.1,x.2.1))=Np.eX (psP PP ⟨xf,xt⟩ sets j))) (λi _=>xn - (intOf i).toNat)
    case atStart=>exact⟨0,us,ov,_,jQ _,rfl,by omega,PU,Rp,Qw,QS,Sl,jq (by rw[YF]; exact Qy.out)⟩
    case round=>
     clear PU Rp Qw QS Sl Qy lM;obtain⟨j,us,ov,M,hj,rfl,E9,zB,SL,Ry,iy,pj,mA⟩:=hrel;have aO:Hid (Below X w wr):=jq (avQ.out.trans (iy.out.rd.below (by omega) (λk e=>by have:=eu.out k e; omega)));have FG:Hid (∀ k,k<W₂.heap.size->¬ S k->wr.heap[k]?=W₂.heap[k]?):=jq iy.out.rd.keep;by_cases ab:j<xn
     ·obtain⟨x,ac⟩:∃ x,sets[j]?=some x:=⟨_,aQ (by rw[rv.out]; exact ab)⟩;obtain⟨b',o,c',ss,dv,sv,hA,hb',_,hs,t8,bd,aL,e0,e1,e2,e3,e4⟩:=eT (Jl.out.keep aV (iy.out.rd.below (n:=X) (by omega) (λk e=>by have:=eu.out k e; omega))) ac;simp only[Value.slice.injEq] at hA;obtain⟨rfl,-,rfl⟩:=hA;have lO:x∈cc.zone.sets:=by rw[wH.out]; exact gQ ac
      have KU:Hid (KeyS x):=jq (Xd (HV.out.each cc lJ.out).zone lO (IE.out cc lJ.out x lO));have St:Hid (Np.Plain47 x):=jq (Np.M7 (HV.out.each cc lJ.out).zone lO (IE.out cc lJ.out x lO));have ir:Hid (psP PP ⟨xf,xt⟩ sets (j+1)=psP PP ⟨xf,xt⟩ sets j ++ [(⟨xf,xt⟩,x)]):=jq (YG ac);have mr:=jq (And.intro hs t8);have Qe:Hid ((⟨⟨ss.data.toList,x.set.type,x.set.life,x.set.data⟩,x.sigs⟩:Np.Signed)=x):=jq (by rw[hs]);have wu:Hid (x.set.data.length<=1000/\x.sigs.length<=1000):=jq (by have h1:=KU.out.few; have h2:=KU.out.fewS; omega);have lZ:Hid (∀ W',Below X wr W'->SlR cG 3 W' W'.heap.size dv x.set.data):=jq (λW' hb=>(bd.keep cL hb).more dp (by have:=hb.size; omega));have zK:Hid (∀ W',Below X wr W'->SlR fT 6 W' W'.heap.size sv x.sigs):=jq (λW' hb=>(aL.keep gg hb).more ij (by have:=hb.size; omega));obtain⟨dA,dc,rfl,_,_⟩:=ag bd;obtain⟨gA,gc,rfl,_,_⟩:=ag aL;obtain⟨dn,n9⟩:∃ n,x.set.data.length=n:=⟨_,rfl⟩;obtain⟨gn,oh⟩:∃ n,x.sigs.length=n:=⟨_,rfl⟩;rw[n9] at e3 lZ;rw[oh] at e4 zK;have Jg:=jq n9;have Jq:=jq oh;clear ac hs t8 bd aL n9 oh lO;have bW:(0:Int)<=(j:Int):=by omega
      have bV:(j:Int)<(xn:Int):=by omega
      obtain⟨w8,iL⟩:∃ w8,wr.alloc (.cells #[.string ss,.int .i64 x.set.type,.int .i64 x.set.life,.slice dA dn dc,.slice gA gn gc] 68)=w8:=⟨_,rfl⟩;have og:w8.heap.size=wr.heap.size+1:=by rw[<-iL]; simp
      have kH:Below wr.heap.size wr w8:=by rw[<-iL]; exact (vQ _ _).alloc (bQ _) _
      have p0:w8.cell? ⟨wr.heap.size,0,none⟩=some (.string ss):=by rw[<-iL]; simp[go_sem]
      have p1:w8.cell? ⟨wr.heap.size,1,none⟩=some (.int .i64 x.set.type):=by rw[<-iL]; simp[go_sem]
      have p2:w8.cell? ⟨wr.heap.size,2,none⟩=some (.int .i64 x.set.life):=by rw[<-iL]; simp[go_sem]
      have p3:w8.cell? ⟨wr.heap.size,3,none⟩=some (.slice dA dn dc):=by rw[<-iL]; simp[go_sem]
      have p4:w8.cell? ⟨wr.heap.size,4,none⟩=some (.slice gA gn gc):=by rw[<-iL]; simp[go_sem]
      have eP:=jq kH;clear kH;gi_wp2_with fail;refine⟨trivial,rfl,?_⟩;refine (CallsIn.inRound l (callsIn_wide.2 (Yv ss x.set.type x.set.life _ _ x.set.data x.sigs w8 (rk.out.keepAt (aO.out.trans (eP.out.mono (by omega))) AY.out) (by rw[Qe.out]; exact KU.out) (lZ.out w8 (eP.out.mono (by omega))) (zK.out w8 (eP.out.mono (by omega)))))).mono ?_;rw[Qe.out];rintro e w9 ⟨rfl,dY⟩;clear iL e0 e1 e2 e3 e4;have tc:=dY.size;have fX:Hid (Below wr.heap.size wr w9):=jq (eP.out.trans (dY.mono (by omega)));replace p0:=(cl dY (by omega)).trans p0;replace p1:=(cl dY (by omega)).trans p1;replace p2:=(cl dY (by omega)).trans p2;replace p3:=(cl dY (by omega)).trans p3;replace p4:=(cl dY (by omega)).trans p4;have Fm:Hid (Boxed w9 Bh 43 ov):=jq (fC zB.out fX.out (by omega));have RP:Hid (Boxed w9 (Bh+1) 4 (.bool true)):=jq (fC SL.out fX.out (by omega));have KT:Hid (dW (Bh+1+1) (Np.nE (us.map (·.1))) w9):=jq (Ry.out.keep fX.out (by omega));have rV:=jq (iy.out.keep fX.out);have FY:=(fX.out.block _ (by omega)).trans ((FG.out _ (by omega) EQ.out).trans nu.out);have P6:w9.heap[X+1]?=w6.heap[X+1]?:=(fX.out.block _ (by omega)).trans ((FG.out _ (by omega) (λe=>by have:=eu.out _ e; omega)).trans Rw.out.1);have RW:w9.heap[Bh+1+1+1]?=w6.heap[Bh+1+1+1]?:=(fX.out.block _ (by omega)).trans ((FG.out _ (by omega) (λe=>by have:=eu.out _ e; omega)).trans Rw.out.2);have bx:w9.cell? ⟨Bh+1+1+1,0,none⟩=some (.map (some (Bh+1+1))):=(iQ RW).trans Ks.out.cell;have kz:w9.cell? ⟨X+1,0,none⟩=some (.string z):=(iQ P6).trans wV.out;have mE:=T4 (P:=prog) w9 121 9 3 underlying121 underlying9 (Bh+1+1) _ KT.out (Np.jK x) (.int .i64 0) (by kernel_rfl);have Re:Hid (∀ y∈us.map (·.1),Np.Plain47 y):=jq (λy hy=>by
       rw[DW mA.out] at hy;obtain⟨p,hp,rfl⟩:=List.mem_map.1 (Np.vu.1 hy);exact aSY.out j p hp)
      have BR:Hid ((us.map (·.1)).Nodup):=jq (by rw[DW mA.out]; exact Np.x9 _);have Tg:Hid (us.length<=5000):=jq (by have h1:=O5 mA.out; have h2:=Ql.out j; omega);clear dY P6 RW;obtain⟨key,zo⟩:∃ key,Np.jK x=key:=⟨_,rfl⟩;rw[zo] at mE |-;by_cases hin:x∈us.map (·.1)
      ·obtain⟨q,hq⟩:=List.mem_iff_getElem?.1 hin;have jd:(Np.nE (us.map (·.1))).lookup key=some (.int .i64 ((q:Nat):Int)):=by rw[<-zo]; exact Np.Vx St.out Re.out BR.out hq
       rw[jd] at mE;simp only[Option.getD_some,Option.isSome_some] at mE;rw[DW mA.out] at hq;obtain⟨fv,hy⟩:=Z9 mA.out hq;obtain⟨tl,uH⟩:∃ tl,Np.ep (psP PP ⟨xf,xt⟩ sets j) x=tl:=⟨_,rfl⟩;have jC:Hid (∀ v',(us.set q (x,tl ++ [⟨xf,xt⟩],v')).map (λx=>(x.1,x.2.1))=Np.eX (psP PP ⟨xf,xt⟩ sets (j+1))):=jq (λv'=>by rw[ir.out,<-uH]; exact Zx mA.out hq _ v');have Ioo:Hid (tl.length<=5000):=jq (by rw[<-uH]; have h1:=NM (psP PP ⟨xf,xt⟩ sets j) x; have h2:=Ql.out j; omega);rw[uH] at hy;clear hin jd hq uH zo;obtain⟨n,hn⟩:∃ n,us.length=n:=⟨_,rfl⟩;have bpK:q<n:=by rw[<-hn]; exact (cQ.1 hy).1
       obtain⟨g,cap,rfl,fy,EJ,pM⟩:=rV.out.rows.row.formSome hn (by omega);have dh:=jq hn;have yU:n<=5000:=by rw[<-hn]; exact Tg.out
       have tX:aI w6.heap.size w9 fv tl:=rV.out.rows.fresh _ (gQ hy);obtain⟨fA,fc,rfl⟩:=aI.form tX;obtain⟨fn,gK⟩:∃ fn,tl.length=fn:=⟨_,rfl⟩;rw[gK] at hy tX;have vX:=jq gK;have HY:=jq hy;have iI:Hid (∀ k,(Value.slice fA fn fc).ownBlock=some k->w6.heap.size<=k/\k≠g/\k≠W.heap.size):=jq (λk e=>by
        have h1:=World.ownsRow.lt tX k e;have h2:=(rV.out.rows.off _ (gQ hy) k e).1;have h3:=rV.out.own k (.inr ⟨_,gQ hy,e⟩);exact⟨h1.1,λe=>h2 (by rw[e]; rfl),λe2=>by
         subst e2;rcases h3 with h3 | h3
         ·exact EQ.out h3
         ·omega⟩)
       have b6:=Fm.out.cell;have f6:w9.cell? ⟨g,q * 8+6,none⟩=some (.slice fA fn fc):=Ho rV.out.rows.row hy;have c1:w9.cell? ⟨W.heap.size,1,none⟩=some (.int .i64 xf):=by simp[World.cell?,FY]
       have c2:w9.cell? ⟨W.heap.size,2,none⟩=some (.int .i64 xt):=by simp[World.cell?,FY]
       have kJ:(0:Int)<=(q:Int):=by omega
       have gO:(q:Int)<(n:Int):=by omega
       have RU:decide ((20000:Int)<(n:Int))=false:=tQ (by omega);have PR:decide (20000<n)=false:=tQ (by omega);have rD:=rV;have Fk:=Fm;have Km:=RP;have EX:=KT;have wD:=pj;have aHK:W.heap.size<w9.heap.size:=by omega
       clear hn hy tX gK FY pM;gi_wp2_with fail;refine yh λa0 bi=>?_;have jg:=jq bi;have iM:=jq (show a0.eval (.tmp 6) = .pointer (some ⟨Bh,0,none⟩) by rw[bi]; rfl);have xR:=jq (show a0.eval (.tmp 13) = .int .i64 (q:Nat) by rw[bi]; rfl);have mi:=jq (show a0.eval (.tmp 9) = .pointer (some ⟨W.heap.size,0,none⟩) by rw[bi]; rfl);have HM:=jq (show a0.tmps.size=101 by rw[bi]; rfl);clear bi;refine C4 (by kernel_rfl) (by kernel_rfl) (by rintro⟨_,_,h⟩; exact h) ?_;refine fN (w:=w9.drew) (D:=[0,1,2,3,4,5,6,7,8,9,10,11,14,15]) (A:=[]) (p:=12) (dst:=eU) (val:=fl g n cap q fA fn fc W.heap.size xf xt undef undef) (m:=101)
        (base:=dt a0 101 vj) (fM (by kernel_rfl)) (by simp) (by simp) (fD (by kernel_rfl)) ?_
        (λi hi=>(jW i (by simp at hi |-; omega)).1) (λi hi j hj=>qp i (by simp at hi |-; omega) j (by simp at hj |-; omega)) (λi hi=>cx (jW i (by simp at hi |-; omega)).2) ?_ ?_ _ _ _ (Held.start (λq hq=>pw q hq) HM.out)
       ·intro i hi ar;simp only[List.mem_cons,Qh,or_false] at hi;rcases hi with rfl | rfl | rfl | rfl | rfl | rfl | rfl | rfl | rfl | rfl | rfl | rfl | rfl | rfl
        all_goals first | (exfalso; simp at ar; done) | exact⟨_,rfl,rfl⟩
       ·intro i hi ar o ho a' hb aR;have k6':=(aT hb (j:=6) (by decide) (by decide)).trans iM.out;have k13':=(aT hb (j:=13) (by decide) (by decide)).trans xR.out;have k9':=(aT hb (j:=9) (by decide) (by decide)).trans mi.out;simp[Act.eval] at k6' k13' k9';simp only[List.mem_cons,Qh,or_false] at hi;rcases hi with rfl | rfl | rfl | rfl | rfl | rfl | rfl | rfl | rfl | rfl | rfl | rfl | rfl | rfl
        all_goals first
         | (exfalso; simp at ar; done)
         | (cases ho
            try simp[Act.eval,Region.binds,fl,eU] at aR
            refine .inl ⟨by simp[Region.wanted],λw' hw'=>?_⟩;subst hw';simp[Oper.quietAt,Oper.quietUpon,execOp,go_sem,fl,k6',k13',k9',b6,f6,c1,c2,kJ,gO,aR])
       ·intro f listed a' hH hr;obtain⟨_,o,ho,ax⟩:=mem_ready.1 hr
        cases ho
        have hG:=hH.good;have hval:=λi hi hl=>hG.val i hi hl;have bB:∀ k,({ on:=k,ground:=.data } : Edge)∈_->listed.getD k false=true:=λk hk=>ax _ hk rfl;have av11:=hval 11 (by simp) (bB 11 (by simp));simp[Act.eval,fl,eU] at av11;simp only[wpOp];simp[Region.wanted];refine .inl ?_;simp[Oper.wp,execOp,go_sem,av11];obtain⟨wA,gR⟩:∃ W',W'=(w9.alloc (.cells #[.int .i64 xf,.int .i64 xt] 114)).drew:=⟨_,rfl⟩;rw[<-gR];have eC:Below w9.heap.size w9 wA:=by rw[gR]; exact ((vQ _ _).alloc (bQ _) _).drew
        have Lr:wA.heap.size=w9.heap.size+1:=by rw[gR]; simp[World.drew]
        have B8:Hid (wA.cell? ⟨w9.heap.size,0,none⟩=some (.int .i64 xf)/\wA.cell? ⟨w9.heap.size,1,none⟩=some (.int .i64 xt)):=jq (by rw[gR]; exact⟨by simp[go_sem],by simp[go_sem]⟩);replace b6:=(cl eC (by omega)).trans b6;replace f6:=(cl eC (by omega)).trans f6;replace c1:=(cl eC (by omega)).trans c1;replace c2:=(cl eC (by omega)).trans c2;have xB:=jq (rD.out.keep eC);have ei:=jq eC;clear gR eC;refine fN (w:=wA) (D:=[0,1,2,3,4,5,6,7,8,9,10,11,14,15,12]) (A:=[12]) (p:=13) (dst:=eU) (val:=fl g n cap q fA fn fc W.heap.size xf xt (.slice (some ⟨w9.heap.size,0,none⟩) 1 1) undef) (m:=101)
         (base:=dt a0 101 vj) (fM (by kernel_rfl)) (by simp) (by simp) (fD (by kernel_rfl)) ?_
         (λi hi=>(jW i (by simp at hi |-; omega)).1) (λi hi j hj=>qp i (by simp at hi |-; omega) j (by simp at hj |-; omega)) (λi hi=>cx (jW i (by simp at hi |-; omega)).2) ?_ ?_ _ _ _ (hH.act (D':=[0,1,2,3,4,5,6,7,8,9,10,11,14,15,12]) (val':=fl g n cap q fA fn fc W.heap.size xf xt (.slice (some ⟨w9.heap.size,0,none⟩) 1 1) undef) hr (by simp) (λi hi=>by simp at hi |-; omega) (λi hi=>by simp at hi; rcases hi with rfl | rfl | rfl | rfl | rfl | rfl | rfl | rfl | rfl | rfl | rfl | rfl | rfl | rfl <;> rfl) rfl (by simp[eU]) (λj hj=>qp 12 (by simp) j (by simp at hj |-; omega) (by rintro rfl; simp at hj)) (cx (jW 12 (by simp)).2) (by simp))
        ·intro i hi ar;simp only[List.mem_cons,Qh,or_false] at hi;rcases hi with rfl | rfl | rfl | rfl | rfl | rfl | rfl | rfl | rfl | rfl | rfl | rfl | rfl | rfl | rfl
         all_goals first | (exfalso; simp at ar; done) | exact⟨_,rfl,rfl⟩
        ·intro i hi ar o ho a' hb aR;have k6':=(aT hb (j:=6) (by decide) (by decide)).trans iM.out;have k13':=(aT hb (j:=13) (by decide) (by decide)).trans xR.out;have k9':=(aT hb (j:=9) (by decide) (by decide)).trans mi.out;simp[Act.eval] at k6' k13' k9';simp only[List.mem_cons,Qh,or_false] at hi;rcases hi with rfl | rfl | rfl | rfl | rfl | rfl | rfl | rfl | rfl | rfl | rfl | rfl | rfl | rfl | rfl
         all_goals first
          | (exfalso; simp at ar; done)
          | (cases ho
             try simp[Act.eval,Region.binds,fl,eU] at aR
             refine .inl ⟨by simp[Region.wanted],λw' hw'=>?_⟩;subst hw';simp[Oper.quietAt,Oper.quietUpon,execOp,go_sem,fl,k6',k13',k9',b6,f6,c1,c2,kJ,gO,aR])
        ·intro f listed a' hH hr;obtain⟨_,o,ho,ax⟩:=mem_ready.1 hr
         cases ho
         have hG:=hH.good;have hval:=λi hi hl=>hG.val i hi hl;have bB:∀ k,({ on:=k,ground:=.data } : Edge)∈_->listed.getD k false=true:=λk hk=>ax _ hk rfl;have av6:=hval 6 (by simp) (bB 6 (by simp));have av12:=hval 12 (by simp) (bB 12 (by simp));simp[fl,eU] at av6 av12;simp only[wpOp];simp[Region.wanted];refine .inl ?_;refine Mc wA (.tmp 68) (.tmp 74) rfl w6.heap.size (.slice fA fn fc) tl av6 (xB.out.rows.fresh _ (gQ HY.out)) w9.heap.size xf xt av12 B8.out.1 B8.out.2 (by have:=Ioo.out; omega) (by omega) ?_;intro v8 wB eh cJ iP;obtain⟨eA,ec,rfl⟩:=Dk eh (n:=(fn+1)) (by rw[List.length_append,vX.out]; rfl);have Jv:=cJ.size;have ffA:wA.frozen? ⟨g,q * 8+6,none⟩=false:=xB.out.rows.row.frozenAt dh.out _;have sR:wB.heap[Bh]?=wA.heap[Bh]?:=cJ.block Bh (by omega) (λe=>by have:=(iI.out Bh e.symm).1; omega);have wg:wB.heap[g]?=wA.heap[g]?:=cJ.block g (by omega) (λe=>(iI.out g e.symm).2.1 rfl);have xa:wB.heap[W.heap.size]?=wA.heap[W.heap.size]?:=cJ.block W.heap.size (by omega) (λe=>(iI.out _ e.symm).2.2 rfl);replace b6:=(iQ (a:=⟨Bh,0,none⟩) sR).trans b6;replace f6:=(iQ (a:=⟨g,q * 8+6,none⟩) wg).trans f6;replace c1:=(iQ (a:=⟨W.heap.size,1,none⟩) xa).trans c1;replace c2:=(iQ (a:=⟨W.heap.size,2,none⟩) xa).trans c2;have ff:=(World.frozen?_of_block (a:=⟨g,q * 8+6,none⟩) wg).trans ffA;have H8:=jq (And.intro eh (And.intro cJ iP));clear eh cJ iP sR wg xa ffA;refine fN (w:=wB) (D:=[0,1,2,3,4,5,6,7,8,9,10,11,14,15,12,13]) (A:=[13,12]) (p:=16) (dst:=eU) (val:=fl g n cap q fA fn fc W.heap.size xf xt (.slice (some ⟨w9.heap.size,0,none⟩) 1 1) (.slice eA (fn+1) ec)) (m:=101)
          (base:=dt a0 101 vj) (fM (by kernel_rfl)) (by simp) (by simp) (fD (by kernel_rfl)) ?_
          (λi hi=>(jW i (by simp at hi |-; omega)).1) (λi hi j hj=>qp i (by simp at hi |-; omega) j (by simp at hj |-; omega)) (λi hi=>cx (jW i (by simp at hi |-; omega)).2) ?_ ?_ _ _ _ (hH.act (D':=[0,1,2,3,4,5,6,7,8,9,10,11,14,15,12,13]) (val':=fl g n cap q fA fn fc W.heap.size xf xt (.slice (some ⟨w9.heap.size,0,none⟩) 1 1) (.slice eA (fn+1) ec)) hr (by simp) (λi hi=>by simp at hi |-; omega) (λi hi=>by simp at hi; rcases hi with rfl | rfl | rfl | rfl | rfl | rfl | rfl | rfl | rfl | rfl | rfl | rfl | rfl | rfl | rfl <;> rfl) rfl (by simp[eU]) (λj hj=>qp 13 (by simp) j (by simp at hj |-; omega) (by rintro rfl; simp at hj)) (cx (jW 13 (by simp)).2) (by simp))
         ·intro i hi ar;simp only[List.mem_cons,Qh,or_false] at hi;rcases hi with rfl | rfl | rfl | rfl | rfl | rfl | rfl | rfl | rfl | rfl | rfl | rfl | rfl | rfl | rfl | rfl
          all_goals first | (exfalso; simp at ar; done) | exact⟨_,rfl,rfl⟩
         ·intro i hi ar o ho a' hb aR;have k6':=(aT hb (j:=6) (by decide) (by decide)).trans iM.out;have k13':=(aT hb (j:=13) (by decide) (by decide)).trans xR.out;have k9':=(aT hb (j:=9) (by decide) (by decide)).trans mi.out;simp[Act.eval] at k6' k13' k9';simp only[List.mem_cons,Qh,or_false] at hi;rcases hi with rfl | rfl | rfl | rfl | rfl | rfl | rfl | rfl | rfl | rfl | rfl | rfl | rfl | rfl | rfl | rfl
          all_goals first
           | (exfalso; simp at ar; done)
           | (cases ho
              try simp[Act.eval,Region.binds,fl,eU] at aR
              refine .inl ⟨by simp[Region.wanted],λw' hw'=>?_⟩;subst hw';simp[Oper.quietAt,Oper.quietUpon,execOp,go_sem,fl,k6',k13',k9',b6,f6,c1,c2,kJ,gO,aR])
         ·intro f listed a' hH hr;obtain⟨_,o,ho,ax⟩:=mem_ready.1 hr
          cases ho
          have hG:=hH.good;have hval:=λi hi hl=>hG.val i hi hl;have bB:∀ k,({ on:=k,ground:=.data } : Edge)∈_->listed.getD k false=true:=λk hk=>ax _ hk rfl;obtain⟨rfl,bY⟩:=hH.all hr (by kernel_rfl);have av13:=hval 13 (by simp) (bY 13 (by simp) (by simp));have av15:=hval 15 (by simp) (bY 15 (by simp) (by simp));simp[Act.eval,fl,eU] at av13 av15;have gE:=Held.frame (D:=[0,1,2,3,4,5,6,7,8,9,10,11,14,15,12,13]) (dst:=eU) (a0:=a0) (m:=101) hH HM.out (λi hi=>bY i (by simp at hi |-; omega) (by simp at hi; omega)) (λi hi=>(jW i (by simp at hi |-; omega)).1);simp only[wpOp];simp[Region.wanted];refine .inl ?_;simp[Oper.wp,execOp,go_sem,av13,av15,f6,ff];refine⟨pz (λi hi=>?_) (by rw[Array.size_setIfInBounds]; exact hG.size),?_⟩
          ·by_cases hip:i=16
           ·subst hip;have hs:16<listed.size:=by rw[hG.size]; exact hi
            simp[Array.getD,hs]
           ·exact kL (bY i hi hip)
          ·rw[gE,jg.out];simp[jJ,Act.put,fl,eU];clear gE hval bB bY ax hG hH;clear b6 f6 c1 c2 ff;obtain⟨W',hW'⟩:∃ W',wB.setCell ⟨g,q * 8+6,none⟩ (.slice eA (fn+1) ec)=W':=⟨_,rfl⟩;have qY:Hid (PubK S W₂ w6.heap.size z (λk=>M k\/(Value.slice eA (fn+1) ec).ownBlock=some k) (us.set q (x,tl ++ [⟨xf,xt⟩],.slice eA (fn+1) ec)) (.slice (some ⟨g,0,none⟩) n cap) W'):=jq (by rw[<-hW']; exact xB.out.changed dh.out HY.out H8.out.2.1 H8.out.1 H8.out.2.2);have gC:Hid (Below w6.heap.size w9 W'):=jq (by rw[<-hW']; exact ((ei.out.mono (by omega)).trans ((vQ _ _).grown H8.out.2.1 (by omega) (λk e=>(iI.out k e).1))).setCell (by dsimp only; omega) _);have IK:Hid ((us.set q (x,tl ++ [(⟨xf,xt⟩:Np.Span)],Value.slice eA (fn+1) ec)).map (·.1)=us.map (·.1)):=jq (OX HY.out rfl);rw[hW'];have PK:W'.heap.size=wB.heap.size:=by rw[<-hW']; simp[World.setCell]
           gi_wp2_with fail;go_roundw
           case measure=>simp[intOf] <;> omega
           case rel=>exact⟨j+1,_,_,_,by omega,by go_num,by omega,jq (fC Fk.out gC.out (by omega)),jq (fC Km.out gC.out (by omega)),jq (by rw[IK.out]; exact EX.out.keep gC.out (by omega)),qY,jq ⟨.inl wD.out.1,.inl wD.out.2.1,.inl wD.out.2.2⟩,jq (jC.out _)⟩
      ·have jd:(Np.nE (us.map (·.1))).lookup key=none:=by rw[<-zo]; exact Np.Vz St.out Re.out hin
       rw[jd] at mE;simp only[Option.getD_none,Option.isSome_none] at mE;have P4:x∉Np.cH ((psP PP ⟨xf,xt⟩ sets j).map (·.2)):=by rw[<-DW mA.out]; exact hin
       obtain⟨m,hm⟩:∃ m,us.length=m:=⟨_,rfl⟩;have BY:=jq hm;have xl:Hid (m<=5000):=jq (by rw[<-hm]; exact Tg.out);obtain⟨wU,hmu,RS,ot⟩:=TN (P:=prog) w9 121 9 3 underlying121 underlying9 (Bh+1+1) _ KT.out key (.int .i64 ((m:Nat):Int)) jd;obtain⟨oA,oc,rfl⟩:=rV.out.rows.row.formN hm;have b6:=Fm.out.cell;have jC:Hid (∀ v',((us ++ [((x,[],.slice none 0 0):PT)]).set m (x,[] ++ [⟨xf,xt⟩],v')).map (λx=>(x.1,x.2.1))=Np.eX (psP PP ⟨xf,xt⟩ sets (j+1))):=jq (λv'=>by rw[ir.out,<-hm]; exact Zy mA.out P4 _ _ v');have hzU:wU.heap.size=w9.heap.size:=ot.size;have P8:=jq (rV.out.touch pj.out.2.1 (.inl uC.out.2.2) (λe=>by have:=(rV.out.rows.lt e).1; omega) ot);have Cj:Hid (Below X wr wU):=jq ((fX.out.mono (by omega)).trans (ot.below (by omega)));have P5:Hid (Boxed wU Bh 43 (.slice oA m oc)):=jq ((ot.block Bh (by omega)).trans Fm.out);have avX:Hid (Boxed wU (Bh+1) 4 (.bool true)):=jq ((ot.block (Bh+1) (by omega)).trans RP.out);have aAX:Hid (dW (Bh+1+1) (Np.nE ((us ++ [((x,[],.slice none 0 0):PT)]).map (·.1))) wU):=jq (by
        rw[List.map_append,List.map_cons,List.map_nil,Np.Vy,zo,List.length_map,hm];exact RS)
       have aZX:Hid (wU.heap[W.heap.size]?=W₂.heap[W.heap.size]?):=jq ((ot.block _ (by omega)).trans ((fX.out.block _ (by omega)).trans (FG.out _ (by omega) EQ.out)));clear hin jd P4 hm zo RS FY;gi_wp2_with fail;replace b6:=P5.out.cell;replace kz:=(iQ (a:=⟨X+1,0,none⟩) (ot.block (X+1) (by omega))).trans kz;replace p0:=(iQ (a:=⟨wr.heap.size,0,none⟩) (ot.block wr.heap.size (by omega))).trans p0;replace p1:=(iQ (a:=⟨wr.heap.size,1,none⟩) (ot.block wr.heap.size (by omega))).trans p1;replace p2:=(iQ (a:=⟨wr.heap.size,2,none⟩) (ot.block wr.heap.size (by omega))).trans p2;replace p3:=(iQ (a:=⟨wr.heap.size,3,none⟩) (ot.block wr.heap.size (by omega))).trans p3;replace p4:=(iQ (a:=⟨wr.heap.size,4,none⟩) (ot.block wr.heap.size (by omega))).trans p4;clear hmu mE bx ot;refine yh λa0 bi=>?_;have jg:=jq bi;have iM:=jq (show a0.eval (.tmp 6) = .pointer (some ⟨Bh,0,none⟩) by rw[bi]; rfl);have pX:=jq (show a0.eval (.tmp 3) = .pointer (some ⟨X+1,0,none⟩) by rw[bi]; rfl);have Eu:=jq (show a0.eval (.tmp 11) = .pointer (some ⟨wr.heap.size,0,none⟩) by rw[bi]; rfl);have HM:=jq (show a0.tmps.size=101 by rw[bi]; rfl);clear bi;refine C4 (by kernel_rfl) (by kernel_rfl) (by rintro⟨_,_,h⟩; exact h) ?_;refine fN (w:=wU.drew) (D:=[0,1,2]) (A:=[]) (p:=3) (dst:=iD) (val:=jl oA m oc z ss x.set.type x.set.life dA dn dc gA gn gc undef undef undef) (m:=101)
        (base:=dt a0 101 Af) (fM (by kernel_rfl)) (by simp) (by simp) (fD (by kernel_rfl)) ?_
        (λi hi=>(oy i (by simp at hi |-; omega)).1) (λi hi j hj=>uZ i (by simp at hi |-; omega) j (by simp at hj |-; omega)) (λi hi=>cx (oy i (by simp at hi |-; omega)).2) ?_ ?_ _ _ _ (Held.start (λq hq=>pw q hq) HM.out)
       ·intro i hi ar;simp only[List.mem_cons,Qh,or_false] at hi;rcases hi with rfl | rfl | rfl
        all_goals first | (exfalso; simp at ar; done) | exact⟨_,rfl,rfl⟩
       ·intro i hi ar o ho a' hb aR;have k6':=(aT hb (j:=6) (by decide) (by decide)).trans iM.out;have k3':=(aT hb (j:=3) (by decide) (by decide)).trans pX.out;have k11':=(aT hb (j:=11) (by decide) (by decide)).trans Eu.out;simp[Act.eval] at k6' k3' k11';simp only[List.mem_cons,Qh,or_false] at hi;rcases hi with rfl | rfl | rfl
        all_goals first
         | (exfalso; simp at ar; done)
         | (cases ho
            try simp[Act.eval,Region.binds,jl,iD] at aR
            refine .inl ⟨by simp[Region.wanted],λw' hw'=>?_⟩;subst hw';simp[Oper.quietAt,Oper.quietUpon,execOp,go_sem,jl,k6',k3',k11',b6,kz,p0,p1,p2,p3,p4,yu,aR])
       ·intro f listed a' hH hr;obtain⟨_,o,ho,ax⟩:=mem_ready.1 hr
        cases ho
        have hG:=hH.good;have hval:=λi hi hl=>hG.val i hi hl;have bB:∀ k,({ on:=k,ground:=.data } : Edge)∈_->listed.getD k false=true:=λk hk=>ax _ hk rfl;have av2:=hval 2 (by simp) (bB 2 (by simp));simp[Act.eval,jl,iD] at av2;simp only[wpOp];simp[Region.wanted];refine .inl ?_;simp[Oper.wp,go_sem,av2];refine (LO ss x.set.type x.set.life _ x.set.data _ x.sigs (by have:=wu.out.1; omega) (by have:=wu.out.2; omega) wU.drew (lZ.out wU.drew Cj.out.drew) (zK.out wU.drew Cj.out.drew)).mono ?_;rintro e wC ⟨dv2,gv2,rfl,jE,Bn⟩;have kI:Below wU.heap.size wU wC:=(vQ wU.heap.size wU).drew.trans Bn;have hzC:=kI.size;replace p0:=(cl kI (by omega)).trans p0;replace p1:=(cl kI (by omega)).trans p1;replace p2:=(cl kI (by omega)).trans p2;replace p3:=(cl kI (by omega)).trans p3;replace p4:=(cl kI (by omega)).trans p4;replace b6:=(cl kI (by omega)).trans b6;replace kz:=(cl kI (by omega)).trans kz;have mP:Hid (Ic wU.heap.size wC dv2 gv2 x.set.data x.sigs):=jq jE;obtain⟨dA2,dc2,rfl,_,_⟩:=ag ((jE (λ_=>False) (λ_ e=>e.elim)).1);obtain⟨gA2,gc2,rfl,_,_⟩:=ag ((jE (λ_=>False) (λ_ e=>e.elim)).2);rw[Jg.out,Jq.out] at mP |-;have HKC:=jq (P8.out.keep kI);have JM:=jq kI;clear jE kI Bn;dsimp only;refine fN (w:=wC) (D:=[0,1,2,4,3]) (A:=[3]) (p:=5) (dst:=iD) (val:=jl oA m oc z ss x.set.type x.set.life dA dn dc gA gn gc (.agg #[.string ss,.int .i64 x.set.type,.int .i64 x.set.life,.slice dA2 dn dc2,.slice gA2 gn gc2]) undef undef) (m:=101)
         (base:=dt a0 101 Af) (fM (by kernel_rfl)) (by simp) (by simp) (fD (by kernel_rfl)) ?_
         (λi hi=>(oy i (by simp at hi |-; omega)).1) (λi hi j hj=>uZ i (by simp at hi |-; omega) j (by simp at hj |-; omega)) (λi hi=>cx (oy i (by simp at hi |-; omega)).2) ?_ ?_ _ _ _ (hH.act (D':=[0,1,2,4,3]) (val':=jl oA m oc z ss x.set.type x.set.life dA dn dc gA gn gc (.agg #[.string ss,.int .i64 x.set.type,.int .i64 x.set.life,.slice dA2 dn dc2,.slice gA2 gn gc2]) undef undef) hr (by simp) (λi hi=>by simp at hi |-; omega) (λi hi=>by simp at hi; rcases hi with rfl | rfl | rfl <;> rfl) rfl (by simp[iD]) (λj hj=>uZ 3 (by simp) j (by simp at hj |-; omega) (by rintro rfl; simp at hj)) (cx (oy 3 (by simp)).2) (by simp))
        ·intro i hi ar;simp only[List.mem_cons,Qh,or_false] at hi;rcases hi with rfl | rfl | rfl | rfl | rfl
         all_goals first | (exfalso; simp at ar; done) | exact⟨_,rfl,rfl⟩
        ·intro i hi ar o ho a' hb aR;have k6':=(aT hb (j:=6) (by decide) (by decide)).trans iM.out;have k3':=(aT hb (j:=3) (by decide) (by decide)).trans pX.out;have k11':=(aT hb (j:=11) (by decide) (by decide)).trans Eu.out;simp[Act.eval] at k6' k3' k11';simp only[List.mem_cons,Qh,or_false] at hi;rcases hi with rfl | rfl | rfl | rfl | rfl
         all_goals first
          | (exfalso; simp at ar; done)
          | (cases ho
             try simp[Act.eval,Region.binds,jl,iD] at aR
             refine .inl ⟨by simp[Region.wanted],λw' hw'=>?_⟩;subst hw';simp[Oper.quietAt,Oper.quietUpon,execOp,go_sem,jl,k6',k3',k11',b6,kz,p0,p1,p2,p3,p4,yu,aR])
        ·intro f listed a' hH hr;obtain⟨_,o,ho,ax⟩:=mem_ready.1 hr
         cases ho
         have hG:=hH.good;have hval:=λi hi hl=>hG.val i hi hl;have bB:∀ k,({ on:=k,ground:=.data } : Edge)∈_->listed.getD k false=true:=λk hk=>ax _ hk rfl;have av4:=hval 4 (by simp) (bB 4 (by simp));simp[Act.eval,jl,iD] at av4;simp only[wpOp];simp[Region.wanted];refine .inl ?_;simp[yu] at av4;simp[Oper.wp,execOp,go_sem,av4];obtain⟨wX,lc⟩:∃ W',W'=wC.alloc (.cells #[.string z,.string ss,.int .i64 x.set.type,.int .i64 x.set.life,.slice dA2 dn dc2,.slice gA2 gn gc2,.slice none 0 0,.slice none 0 0] 70):=⟨_,rfl⟩;rw[<-lc];have aY:Below wC.heap.size wC wX:=by rw[lc]; exact (vQ _ _).alloc (bQ _) _
         have Be:cN wX wC.heap.size 0 [.string z,.string ss,.int .i64 x.set.type,.int .i64 x.set.life,.slice dA2 dn dc2,.slice gA2 gn gc2,.slice none 0 0,.slice none 0 0]:=λi v hi=>by
          rw[lc]
          match i,hi with
          | 0,hi=>cases hi; simp[go_sem]
          | 1,hi=>cases hi; simp[go_sem]
          | 2,hi=>cases hi; simp[go_sem]
          | 3,hi=>cases hi; simp[go_sem]
          | 4,hi=>cases hi; simp[go_sem]
          | 5,hi=>cases hi; simp[go_sem]
          | 6,hi=>cases hi; simp[go_sem]
          | 7,hi=>cases hi; simp[go_sem]
          | i+8,hi=>simp at hi
         have PI:=aY.size;replace p0:=(cl aY (by omega)).trans p0;replace p1:=(cl aY (by omega)).trans p1;replace p2:=(cl aY (by omega)).trans p2;replace p3:=(cl aY (by omega)).trans p3;replace p4:=(cl aY (by omega)).trans p4;replace b6:=(cl aY (by omega)).trans b6;replace kz:=(cl aY (by omega)).trans kz;have pU:=jq Be;have Kf:=jq (HKC.out.keep aY);have yH:=jq aY;have mB:Hid (qH z (bp wX M) wX.heap.size [.string z,.string ss,.int .i64 x.set.type,.int .i64 x.set.life,.slice dA2 dn dc2,.slice gA2 gn gc2,.slice none 0 0,.slice none 0 0] (x,[],.slice none 0 0)):=jq (by
          have h1:=mP.out M (λk hk=>P8.out.lt k hk);have h2:=(Leaves'.of_below (M:=M) aY).slr cL vd dp h1.1;have h3:=(Leaves'.of_below (M:=M) aY).slr gg yc ij h1.2;exact⟨ss,_,_,none,0,0,rfl,rfl,mr.out.1,mr.out.2,h2,h3⟩)
         clear lc aY Be;refine fN (w:=wX) (D:=[0,1,2,4,3,5]) (A:=[5,3]) (p:=6) (dst:=iD) (val:=jl oA m oc z ss x.set.type x.set.life dA dn dc gA gn gc (.agg #[.string ss,.int .i64 x.set.type,.int .i64 x.set.life,.slice dA2 dn dc2,.slice gA2 gn gc2]) (.slice (some ⟨wC.heap.size,0,none⟩) 1 1) undef) (m:=101)
          (base:=dt a0 101 Af) (fM (by kernel_rfl)) (by simp) (by simp) (fD (by kernel_rfl)) ?_
          (λi hi=>(oy i (by simp at hi |-; omega)).1) (λi hi j hj=>uZ i (by simp at hi |-; omega) j (by simp at hj |-; omega)) (λi hi=>cx (oy i (by simp at hi |-; omega)).2) ?_ ?_ _ _ _ (hH.act (D':=[0,1,2,4,3,5]) (val':=jl oA m oc z ss x.set.type x.set.life dA dn dc gA gn gc (.agg #[.string ss,.int .i64 x.set.type,.int .i64 x.set.life,.slice dA2 dn dc2,.slice gA2 gn gc2]) (.slice (some ⟨wC.heap.size,0,none⟩) 1 1) undef) hr (by simp) (λi hi=>by simp at hi |-; omega) (λi hi=>by simp at hi; rcases hi with rfl | rfl | rfl | rfl | rfl <;> rfl) rfl (by simp[iD]) (λj hj=>uZ 5 (by simp) j (by simp at hj |-; omega) (by rintro rfl; simp at hj)) (cx (oy 5 (by simp)).2) (by simp))
         ·intro i hi ar;simp only[List.mem_cons,Qh,or_false] at hi;rcases hi with rfl | rfl | rfl | rfl | rfl | rfl
          all_goals first | (exfalso; simp at ar; done) | exact⟨_,rfl,rfl⟩
         ·intro i hi ar o ho a' hb aR;have k6':=(aT hb (j:=6) (by decide) (by decide)).trans iM.out;have k3':=(aT hb (j:=3) (by decide) (by decide)).trans pX.out;have k11':=(aT hb (j:=11) (by decide) (by decide)).trans Eu.out;simp[Act.eval] at k6' k3' k11';simp only[List.mem_cons,Qh,or_false] at hi;rcases hi with rfl | rfl | rfl | rfl | rfl | rfl
          all_goals first
           | (exfalso; simp at ar; done)
           | (cases ho
              try simp[Act.eval,Region.binds,jl,iD] at aR
              refine .inl ⟨by simp[Region.wanted],λw' hw'=>?_⟩;subst hw';simp[Oper.quietAt,Oper.quietUpon,execOp,go_sem,jl,k6',k3',k11',b6,kz,p0,p1,p2,p3,p4,yu,aR])
         ·intro f listed a' hH hr;obtain⟨_,o,ho,ax⟩:=mem_ready.1 hr
          cases ho
          have hG:=hH.good;have hval:=λi hi hl=>hG.val i hi hl;have bB:∀ k,({ on:=k,ground:=.data } : Edge)∈_->listed.getD k false=true:=λk hk=>ax _ hk rfl;have av0:=hval 0 (by simp) (bB 0 (by simp));have av5:=hval 5 (by simp) (bB 5 (by simp));simp[jl,iD] at av0 av5;simp only[wpOp];simp[Region.wanted];refine .inl ?_;refine Dg (R:=qH z) (M:=M) wX (.tmp 52) (.tmp 57) 43 rfl w6.heap.size yA ih (.agg #[.string ⟨#[]⟩,.string ⟨#[]⟩,.int .i64 0,.int .i64 0,.slice none 0 0,.slice none 0 0,.slice none 0 0,.slice none 0 0]) 144 underlying43 hih ayJ aKQ aCX rfl (by decide) (.slice oA m oc) us av0 Kf.out.rows.row (some ⟨wC.heap.size,0,none⟩) 1 [(x,[],.slice none 0 0)] av5 (yd rfl mB.out pU.out) (Xt z) (by rw[BY.out]; have:=xl.out; simp[maxLen]; omega) (by rw[BY.out]; have:=xl.out; simp; omega) (by omega) (DE z) (DC z) (DD z) ?_;intro v8 wY eh cJ iP;obtain⟨A8,c8,rfl⟩:=eh.formN (n:=m+1) (by rw[List.length_append,BY.out]; rfl);have Qn:=cJ.size;have EO:∀ k,(Value.slice oA m oc).ownBlock=some k->w6.heap.size<=k/\k<wr.heap.size:=λk e=>by have h1:=iy.out.rows.row.lt k e; exact h1
          have yS:wY.heap[wr.heap.size]?=wX.heap[wr.heap.size]?:=cJ.block _ (by omega) (λe=>by have:=(EO _ e.symm).2; omega);have sR:wY.heap[Bh]?=wX.heap[Bh]?:=cJ.block _ (by omega) (λe=>by have:=(EO _ e.symm).1; omega);have Rq:wY.heap[X+1]?=wX.heap[X+1]?:=cJ.block _ (by omega) (λe=>by have:=(EO _ e.symm).1; omega);replace p0:=(iQ (a:=⟨wr.heap.size,0,none⟩) yS).trans p0;replace p1:=(iQ (a:=⟨wr.heap.size,1,none⟩) yS).trans p1;replace p2:=(iQ (a:=⟨wr.heap.size,2,none⟩) yS).trans p2;replace p3:=(iQ (a:=⟨wr.heap.size,3,none⟩) yS).trans p3;replace p4:=(iQ (a:=⟨wr.heap.size,4,none⟩) yS).trans p4;replace b6:=(iQ (a:=⟨Bh,0,none⟩) sR).trans b6;replace kz:=(iQ (a:=⟨X+1,0,none⟩) Rq).trans kz;have QL:Hid (Boxed wY Bh 43 (.slice oA m oc)):=jq (sR.trans ((yH.out.block Bh (by omega)).trans ((JM.out.block Bh (by omega)).trans P5.out)));have amQ:Hid (wY.heap[W.heap.size]?=wU.heap[W.heap.size]?):=jq ((cJ.block _ (by omega) (λe=>by
           rcases Kf.out.own _ (.inl e.symm) with h1 | h1
           ·exact EQ.out h1
           ·omega)).trans ((yH.out.block _ (by omega)).trans (JM.out.block _ (by omega))))
          have aMZ:Hid (Below w6.heap.size wX wY):=jq ((vQ _ _).grown cJ (by omega) (λk e=>(EO k e).1));have qd:=jq (Kf.out.push eh cJ iP);clear eh cJ iP yS sR Rq;refine fN (w:=wY) (D:=[0,1,2,4,3,5,6]) (A:=[6,5,3]) (p:=7) (dst:=iD) (val:=jl oA m oc z ss x.set.type x.set.life dA dn dc gA gn gc (.agg #[.string ss,.int .i64 x.set.type,.int .i64 x.set.life,.slice dA2 dn dc2,.slice gA2 gn gc2]) (.slice (some ⟨wC.heap.size,0,none⟩) 1 1) (.slice A8 (m+1) c8)) (m:=101)
           (base:=dt a0 101 Af) (fM (by kernel_rfl)) (by simp) (by simp) (fD (by kernel_rfl)) ?_
           (λi hi=>(oy i (by simp at hi |-; omega)).1) (λi hi j hj=>uZ i (by simp at hi |-; omega) j (by simp at hj |-; omega)) (λi hi=>cx (oy i (by simp at hi |-; omega)).2) ?_ ?_ _ _ _ (hH.act (D':=[0,1,2,4,3,5,6]) (val':=jl oA m oc z ss x.set.type x.set.life dA dn dc gA gn gc (.agg #[.string ss,.int .i64 x.set.type,.int .i64 x.set.life,.slice dA2 dn dc2,.slice gA2 gn gc2]) (.slice (some ⟨wC.heap.size,0,none⟩) 1 1) (.slice A8 (m+1) c8)) hr (by simp) (λi hi=>by simp at hi |-; omega) (λi hi=>by simp at hi; rcases hi with rfl | rfl | rfl | rfl | rfl | rfl <;> rfl) rfl (by simp[iD]) (λj hj=>uZ 6 (by simp) j (by simp at hj |-; omega) (by rintro rfl; simp at hj)) (cx (oy 6 (by simp)).2) (by simp))
          ·intro i hi ar;simp only[List.mem_cons,Qh,or_false] at hi;rcases hi with rfl | rfl | rfl | rfl | rfl | rfl | rfl
           all_goals first | (exfalso; simp at ar; done) | exact⟨_,rfl,rfl⟩
          ·intro i hi ar o ho a' hb aR;have k6':=(aT hb (j:=6) (by decide) (by decide)).trans iM.out;have k3':=(aT hb (j:=3) (by decide) (by decide)).trans pX.out;have k11':=(aT hb (j:=11) (by decide) (by decide)).trans Eu.out;simp[Act.eval] at k6' k3' k11';simp only[List.mem_cons,Qh,or_false] at hi;rcases hi with rfl | rfl | rfl | rfl | rfl | rfl | rfl
           all_goals first
            | (exfalso; simp at ar; done)
            | (cases ho
               try simp[Act.eval,Region.binds,jl,iD] at aR
               refine .inl ⟨by simp[Region.wanted],λw' hw'=>?_⟩;subst hw';simp[Oper.quietAt,Oper.quietUpon,execOp,go_sem,jl,k6',k3',k11',b6,kz,p0,p1,p2,p3,p4,yu,aR])
          ·intro f listed a' hH hr;obtain⟨_,o,ho,ax⟩:=mem_ready.1 hr
           cases ho
           have hG:=hH.good;have hval:=λi hi hl=>hG.val i hi hl;have bB:∀ k,({ on:=k,ground:=.data } : Edge)∈_->listed.getD k false=true:=λk hk=>ax _ hk rfl;obtain⟨rfl,bY⟩:=hH.all hr (by kernel_rfl);have av6:=hval 6 (by simp) (bY 6 (by simp) (by simp));simp[Act.eval,jl,iD] at av6;have gE:=Held.frame (D:=[0,1,2,4,3,5,6]) (dst:=iD) (a0:=a0) (m:=101) hH HM.out (λi hi=>bY i (by simp at hi |-; omega) (by simp at hi; omega)) (λi hi=>(oy i (by simp at hi |-; omega)).1);simp only[wpOp];simp[Region.wanted];refine .inl ?_;have bf:=QL.out.frozen;have k6':=(aT hG.base (j:=6) (by decide) (by decide)).trans iM.out;simp[Act.eval] at k6';simp[Oper.wp,execOp,go_sem,av6,b6,bf,k6'];refine⟨pz (λi hi=>?_) (by rw[Array.size_setIfInBounds]; exact hG.size),?_⟩
           ·by_cases hip:i=7
            ·subst hip;have hs:7<listed.size:=by rw[hG.size]; exact hi
             simp[Array.getD,hs]
            ·exact kL (bY i hi hip)
           ·rw[gE,jg.out];simp[jJ,Act.put,jl,iD];clear gE hval bB bY ax hG hH;clear p0 p1 p2 p3 p4 b6 kz bf;obtain⟨wZ,Ez⟩:∃ wZ,wY.setCell ⟨Bh,0,none⟩ (.slice A8 (m+1) c8)=wZ:=⟨_,rfl⟩;have tZ:Turned Bh wY wZ:=by rw[<-Ez]; exact⟨rfl,rfl,rfl,by simp[World.setCell],λi hi=>wQ _ _ _ _ hi⟩
            have hzZ:wZ.heap.size=wY.heap.size:=tZ.size;have Fk:Hid (Boxed wZ Bh 43 (.slice A8 (m+1) c8)):=jq (by rw[<-Ez]; exact QL.out.set _);have LD:Below w6.heap.size wU wY:=((JM.out.mono (by omega)).trans (yH.out.mono (by omega))).trans aMZ.out;have Km:Hid (Boxed wZ (Bh+1) 4 (.bool true)):=jq ((tZ.block (Bh+1) (by omega)).trans (fC avX.out LD (by omega)));have EX:Hid (dW (Bh+1+1) (Np.nE ((us ++ [((x,[],.slice none 0 0):PT)]).map (·.1))) wZ):=jq ((aAX.out.keep LD (by omega)).stays (tZ.block _ (by omega)));obtain⟨u1,uM⟩:∃ u1,us ++ [((x,[],.slice none 0 0):PT)]=u1:=⟨_,rfl⟩;obtain⟨M1,KF⟩:∃ M1:Nat->Prop,(λk=>M k\/(Value.slice A8 (m+1) c8).ownBlock=some k)=M1:=⟨_,rfl⟩;have rD:Hid (PubK S W₂ w6.heap.size z M1 u1 (.slice A8 (m+1) c8) wZ):=jq (by rw[<-uM,<-KF]; exact qd.out.touch (.inl pj.out.1) (.inl uC.out.1) (λe=>by have:=(qd.out.rows.lt e).1; omega) tZ);have wD:Hid (M1 Bh/\M1 (Bh+1+1)/\M1 (Bh+1)):=jq (by rw[<-KF]; exact⟨.inl pj.out.1,.inl pj.out.2.1,.inl pj.out.2.2⟩);rw[uM] at EX jC;have HY:Hid (u1[m]?=some (x,[],.slice none 0 0)):=jq (by rw[<-uM,<-BY.out]; simp);have dh:Hid (u1.length=m+1):=jq (by rw[<-uM,<-BY.out]; simp);have vX:Hid (([]:List Np.Span).length=0):=jq rfl;have Ioo:Hid (([]:List Np.Span).length<=5000):=jq (by simp);obtain⟨g,cap,RC,fy,EJ,pM⟩:=rD.out.rows.row.formSome dh.out (by omega);simp only[Value.slice.injEq] at RC;obtain⟨rfl,-,rfl⟩:=RC;have iI:Hid (∀ k,(Value.slice none 0 0).ownBlock=some k->w6.heap.size<=k/\k≠g/\k≠W.heap.size):=jq (λk e=>by cases e);have IU:=((tZ.block _ (by omega)).trans (amQ.out.trans aZX.out)).trans nu.out;have b6:=Fk.out.cell;have f6:wZ.cell? ⟨g,m * 8+6,none⟩=some (.slice none 0 0):=Ho rD.out.rows.row HY.out;have c1:wZ.cell? ⟨W.heap.size,1,none⟩=some (.int .i64 xf):=by simp[World.cell?,IU]
            have c2:wZ.cell? ⟨W.heap.size,2,none⟩=some (.int .i64 xt):=by simp[World.cell?,IU]
            have kJ:(0:Int)<=(m:Int):=by omega
            have gO:(m:Int)<(m:Int)+1:=by omega
            have RU:decide ((20000:Int)<(m:Int)+1)=false:=tQ (by have:=xl.out; omega);have PR:decide (20000<m+1)=false:=tQ (by have:=xl.out; omega);rw[Ez];have aHK:W.heap.size<wZ.heap.size:=by omega
            clear IU pM LD tZ Ez uM KF;gi_wp2_with fail;refine yh λa0 bi=>?_;have jg:=jq bi;have iM:=jq (show a0.eval (.tmp 6) = .pointer (some ⟨Bh,0,none⟩) by rw[bi]; rfl);have xR:=jq (show a0.eval (.tmp 13) = .int .i64 (m:Nat) by rw[bi]; rfl);have mi:=jq (show a0.eval (.tmp 9) = .pointer (some ⟨W.heap.size,0,none⟩) by rw[bi]; rfl);have HM:=jq (show a0.tmps.size=101 by rw[bi]; rfl);clear bi;refine C4 (by kernel_rfl) (by kernel_rfl) (by rintro⟨_,_,h⟩; exact h) ?_;refine fN (w:=wZ.drew) (D:=[0,1,2,3,4,5,6,7,8,9,10,11,14,15]) (A:=[]) (p:=12) (dst:=eU) (val:=fl g (m+1) c8 m none 0 0 W.heap.size xf xt undef undef) (m:=101)
             (base:=dt a0 101 vj) (fM (by kernel_rfl)) (by simp) (by simp) (fD (by kernel_rfl)) ?_
             (λi hi=>(jW i (by simp at hi |-; omega)).1) (λi hi j hj=>qp i (by simp at hi |-; omega) j (by simp at hj |-; omega)) (λi hi=>cx (jW i (by simp at hi |-; omega)).2) ?_ ?_ _ _ _ (Held.start (λq hq=>pw q hq) HM.out)
            ·intro i hi ar;simp only[List.mem_cons,Qh,or_false] at hi;rcases hi with rfl | rfl | rfl | rfl | rfl | rfl | rfl | rfl | rfl | rfl | rfl | rfl | rfl | rfl
             all_goals first | (exfalso; simp at ar; done) | exact⟨_,rfl,rfl⟩
            ·intro i hi ar o ho a' hb aR;have k6':=(aT hb (j:=6) (by decide) (by decide)).trans iM.out;have k13':=(aT hb (j:=13) (by decide) (by decide)).trans xR.out;have k9':=(aT hb (j:=9) (by decide) (by decide)).trans mi.out;simp[Act.eval] at k6' k13' k9';simp only[List.mem_cons,Qh,or_false] at hi;rcases hi with rfl | rfl | rfl | rfl | rfl | rfl | rfl | rfl | rfl | rfl | rfl | rfl | rfl | rfl
             all_goals first
              | (exfalso; simp at ar; done)
              | (cases ho
                 try simp[Act.eval,Region.binds,fl,eU] at aR
                 refine .inl ⟨by simp[Region.wanted],λw' hw'=>?_⟩;subst hw';simp[Oper.quietAt,Oper.quietUpon,execOp,go_sem,fl,k6',k13',k9',b6,f6,c1,c2,kJ,gO,aR])
            ·intro f listed a' hH hr;obtain⟨_,o,ho,ax⟩:=mem_ready.1 hr
             cases ho
             have hG:=hH.good;have hval:=λi hi hl=>hG.val i hi hl;have bB:∀ k,({ on:=k,ground:=.data } : Edge)∈_->listed.getD k false=true:=λk hk=>ax _ hk rfl;have av11:=hval 11 (by simp) (bB 11 (by simp));simp[Act.eval,fl,eU] at av11;simp only[wpOp];simp[Region.wanted];refine .inl ?_;simp[Oper.wp,execOp,go_sem,av11];obtain⟨wA,gR⟩:∃ W',W'=(wZ.alloc (.cells #[.int .i64 xf,.int .i64 xt] 114)).drew:=⟨_,rfl⟩;rw[<-gR];have eC:Below wZ.heap.size wZ wA:=by rw[gR]; exact ((vQ _ _).alloc (bQ _) _).drew
             have Lr:wA.heap.size=wZ.heap.size+1:=by rw[gR]; simp[World.drew]
             have B8:Hid (wA.cell? ⟨wZ.heap.size,0,none⟩=some (.int .i64 xf)/\wA.cell? ⟨wZ.heap.size,1,none⟩=some (.int .i64 xt)):=jq (by rw[gR]; exact⟨by simp[go_sem],by simp[go_sem]⟩);replace b6:=(cl eC (by omega)).trans b6;replace f6:=(cl eC (by omega)).trans f6;replace c1:=(cl eC (by omega)).trans c1;replace c2:=(cl eC (by omega)).trans c2;have xB:=jq (rD.out.keep eC);have ei:=jq eC;clear gR eC;refine fN (w:=wA) (D:=[0,1,2,3,4,5,6,7,8,9,10,11,14,15,12]) (A:=[12]) (p:=13) (dst:=eU) (val:=fl g (m+1) c8 m none 0 0 W.heap.size xf xt (.slice (some ⟨wZ.heap.size,0,none⟩) 1 1) undef) (m:=101)
              (base:=dt a0 101 vj) (fM (by kernel_rfl)) (by simp) (by simp) (fD (by kernel_rfl)) ?_
              (λi hi=>(jW i (by simp at hi |-; omega)).1) (λi hi j hj=>qp i (by simp at hi |-; omega) j (by simp at hj |-; omega)) (λi hi=>cx (jW i (by simp at hi |-; omega)).2) ?_ ?_ _ _ _ (hH.act (D':=[0,1,2,3,4,5,6,7,8,9,10,11,14,15,12]) (val':=fl g (m+1) c8 m none 0 0 W.heap.size xf xt (.slice (some ⟨wZ.heap.size,0,none⟩) 1 1) undef) hr (by simp) (λi hi=>by simp at hi |-; omega) (λi hi=>by simp at hi; rcases hi with rfl | rfl | rfl | rfl | rfl | rfl | rfl | rfl | rfl | rfl | rfl | rfl | rfl | rfl <;> rfl) rfl (by simp[eU]) (λj hj=>qp 12 (by simp) j (by simp at hj |-; omega) (by rintro rfl; simp at hj)) (cx (jW 12 (by simp)).2) (by simp))
             ·intro i hi ar;simp only[List.mem_cons,Qh,or_false] at hi;rcases hi with rfl | rfl | rfl | rfl | rfl | rfl | rfl | rfl | rfl | rfl | rfl | rfl | rfl | rfl | rfl
              all_goals first | (exfalso; simp at ar; done) | exact⟨_,rfl,rfl⟩
             ·intro i hi ar o ho a' hb aR;have k6':=(aT hb (j:=6) (by decide) (by decide)).trans iM.out;have k13':=(aT hb (j:=13) (by decide) (by decide)).trans xR.out;have k9':=(aT hb (j:=9) (by decide) (by decide)).trans mi.out;simp[Act.eval] at k6' k13' k9';simp only[List.mem_cons,Qh,or_false] at hi;rcases hi with rfl | rfl | rfl | rfl | rfl | rfl | rfl | rfl | rfl | rfl | rfl | rfl | rfl | rfl | rfl
              all_goals first
               | (exfalso; simp at ar; done)
               | (cases ho
                  try simp[Act.eval,Region.binds,fl,eU] at aR
                  refine .inl ⟨by simp[Region.wanted],λw' hw'=>?_⟩;subst hw';simp[Oper.quietAt,Oper.quietUpon,execOp,go_sem,fl,k6',k13',k9',b6,f6,c1,c2,kJ,gO,aR])
             ·intro f listed a' hH hr;obtain⟨_,o,ho,ax⟩:=mem_ready.1 hr
              cases ho
              have hG:=hH.good;have hval:=λi hi hl=>hG.val i hi hl;have bB:∀ k,({ on:=k,ground:=.data } : Edge)∈_->listed.getD k false=true:=λk hk=>ax _ hk rfl;have av6:=hval 6 (by simp) (bB 6 (by simp));have av12:=hval 12 (by simp) (bB 12 (by simp));simp[fl,eU] at av6 av12;simp only[wpOp];simp[Region.wanted];refine .inl ?_;refine Mc wA (.tmp 68) (.tmp 74) rfl w6.heap.size (.slice none 0 0) [] av6 (xB.out.rows.fresh _ (gQ HY.out)) wZ.heap.size xf xt av12 B8.out.1 B8.out.2 (by have:=Ioo.out; omega) (by omega) ?_;intro v8 wB eh cJ iP;obtain⟨eA,ec,rfl⟩:=Dk eh (n:=1) (by rw[List.length_append,vX.out]; rfl);have Jv:=cJ.size;have ffA:wA.frozen? ⟨g,m * 8+6,none⟩=false:=xB.out.rows.row.frozenAt dh.out _;have sR:wB.heap[Bh]?=wA.heap[Bh]?:=cJ.block Bh (by omega) (λe=>by have:=(iI.out Bh e.symm).1; omega);have wg:wB.heap[g]?=wA.heap[g]?:=cJ.block g (by omega) (λe=>(iI.out g e.symm).2.1 rfl);have xa:wB.heap[W.heap.size]?=wA.heap[W.heap.size]?:=cJ.block W.heap.size (by omega) (λe=>(iI.out _ e.symm).2.2 rfl);replace b6:=(iQ (a:=⟨Bh,0,none⟩) sR).trans b6;replace f6:=(iQ (a:=⟨g,m * 8+6,none⟩) wg).trans f6;replace c1:=(iQ (a:=⟨W.heap.size,1,none⟩) xa).trans c1;replace c2:=(iQ (a:=⟨W.heap.size,2,none⟩) xa).trans c2;have ff:=(World.frozen?_of_block (a:=⟨g,m * 8+6,none⟩) wg).trans ffA;have H8:=jq (And.intro eh (And.intro cJ iP));clear eh cJ iP sR wg xa ffA;refine fN (w:=wB) (D:=[0,1,2,3,4,5,6,7,8,9,10,11,14,15,12,13]) (A:=[13,12]) (p:=16) (dst:=eU) (val:=fl g (m+1) c8 m none 0 0 W.heap.size xf xt (.slice (some ⟨wZ.heap.size,0,none⟩) 1 1) (.slice eA 1 ec)) (m:=101)
               (base:=dt a0 101 vj) (fM (by kernel_rfl)) (by simp) (by simp) (fD (by kernel_rfl)) ?_
               (λi hi=>(jW i (by simp at hi |-; omega)).1) (λi hi j hj=>qp i (by simp at hi |-; omega) j (by simp at hj |-; omega)) (λi hi=>cx (jW i (by simp at hi |-; omega)).2) ?_ ?_ _ _ _ (hH.act (D':=[0,1,2,3,4,5,6,7,8,9,10,11,14,15,12,13]) (val':=fl g (m+1) c8 m none 0 0 W.heap.size xf xt (.slice (some ⟨wZ.heap.size,0,none⟩) 1 1) (.slice eA 1 ec)) hr (by simp) (λi hi=>by simp at hi |-; omega) (λi hi=>by simp at hi; rcases hi with rfl | rfl | rfl | rfl | rfl | rfl | rfl | rfl | rfl | rfl | rfl | rfl | rfl | rfl | rfl <;> rfl) rfl (by simp[eU]) (λj hj=>qp 13 (by simp) j (by simp at hj |-; omega) (by rintro rfl; simp at hj)) (cx (jW 13 (by simp)).2) (by simp))
              ·intro i hi ar;simp only[List.mem_cons,Qh,or_false] at hi;rcases hi with rfl | rfl | rfl | rfl | rfl | rfl | rfl | rfl | rfl | rfl | rfl | rfl | rfl | rfl | rfl | rfl
               all_goals first | (exfalso; simp at ar; done) | exact⟨_,rfl,rfl⟩
              ·intro i hi ar o ho a' hb aR;have k6':=(aT hb (j:=6) (by decide) (by decide)).trans iM.out;have k13':=(aT hb (j:=13) (by decide) (by decide)).trans xR.out;have k9':=(aT hb (j:=9) (by decide) (by decide)).trans mi.out;simp[Act.eval] at k6' k13' k9';simp only[List.mem_cons,Qh,or_false] at hi;rcases hi with rfl | rfl | rfl | rfl | rfl | rfl | rfl | rfl | rfl | rfl | rfl | rfl | rfl | rfl | rfl | rfl
               all_goals first
                | (exfalso; simp at ar; done)
                | (cases ho
                   try simp[Act.eval,Region.binds,fl,eU] at aR
                   refine .inl ⟨by simp[Region.wanted],λw' hw'=>?_⟩;subst hw';simp[Oper.quietAt,Oper.quietUpon,execOp,go_sem,fl,k6',k13',k9',b6,f6,c1,c2,kJ,gO,aR])
              ·intro f listed a' hH hr;obtain⟨_,o,ho,ax⟩:=mem_ready.1 hr
               cases ho
               have hG:=hH.good;have hval:=λi hi hl=>hG.val i hi hl;have bB:∀ k,({ on:=k,ground:=.data } : Edge)∈_->listed.getD k false=true:=λk hk=>ax _ hk rfl;obtain⟨rfl,bY⟩:=hH.all hr (by kernel_rfl);have av13:=hval 13 (by simp) (bY 13 (by simp) (by simp));have av15:=hval 15 (by simp) (bY 15 (by simp) (by simp));simp[Act.eval,fl,eU] at av13 av15;have gE:=Held.frame (D:=[0,1,2,3,4,5,6,7,8,9,10,11,14,15,12,13]) (dst:=eU) (a0:=a0) (m:=101) hH HM.out (λi hi=>bY i (by simp at hi |-; omega) (by simp at hi; omega)) (λi hi=>(jW i (by simp at hi |-; omega)).1);simp only[wpOp];simp[Region.wanted];refine .inl ?_;simp[Oper.wp,execOp,go_sem,av13,av15,f6,ff];refine⟨pz (λi hi=>?_) (by rw[Array.size_setIfInBounds]; exact hG.size),?_⟩
               ·by_cases hip:i=16
                ·subst hip;have hs:16<listed.size:=by rw[hG.size]; exact hi
                 simp[Array.getD,hs]
                ·exact kL (bY i hi hip)
               ·rw[gE,jg.out];simp[jJ,Act.put,fl,eU];clear gE hval bB bY ax hG hH;clear b6 f6 c1 c2 ff;obtain⟨W',hW'⟩:∃ W',wB.setCell ⟨g,m * 8+6,none⟩ (.slice eA 1 ec)=W':=⟨_,rfl⟩;have qY:Hid (PubK S W₂ w6.heap.size z (λk=>M1 k\/(Value.slice eA 1 ec).ownBlock=some k) (u1.set m (x,[] ++ [⟨xf,xt⟩],.slice eA 1 ec)) (.slice (some ⟨g,0,none⟩) (m+1) c8) W'):=jq (by rw[<-hW']; exact xB.out.changed dh.out HY.out H8.out.2.1 H8.out.1 H8.out.2.2);have gC:Hid (Below w6.heap.size wZ W'):=jq (by rw[<-hW']; exact ((ei.out.mono (by omega)).trans ((vQ _ _).grown H8.out.2.1 (by omega) (λk e=>(iI.out k e).1))).setCell (by dsimp only; omega) _);have IK:Hid ((u1.set m (x,[] ++ [(⟨xf,xt⟩:Np.Span)],Value.slice eA 1 ec)).map (·.1)=u1.map (·.1)):=jq (OX HY.out rfl);rw[hW'];have PK:W'.heap.size=wB.heap.size:=by rw[<-hW']; simp[World.setCell]
                gi_wp2_with fail;go_roundw
                case measure=>simp[intOf] <;> omega
                case rel=>exact⟨j+1,_,_,_,by omega,by go_num,by omega,jq (fC Fk.out gC.out (by omega)),jq (fC Km.out gC.out (by omega)),jq (by rw[IK.out]; exact EX.out.keep gC.out (by omega)),qY,jq ⟨.inl wD.out.1,.inl wD.out.2.1,.inl wD.out.2.2⟩,jq (jC.out _)⟩
     ·obtain rfl:j=xn:=by omega
      obtain⟨PG,Qz⟩:=iy.out.stop;have rm:=jq PG;have mY:=jq Qz;have aDK:Hid (RdStep (λk=>k=Bh\/k=Bh+1\/k=Bh+1+1) w6 wr):=jq (Kl.out.trans iy.out.rd (λk e=>by have:=eu.out k e; omega));clear PG Qz;gi_wp2_with fail;refine⟨λk=>S k\/(W₂.heap.size<=k/\k<wr.heap.size),iy.out.rd.mono (λk e=>.inl e),λk e=>?_,λk e=>?_,us,ov,_,.inl uC.out.1,.inl uC.out.2.1,.inl uC.out.2.2,mY.out,λk e=>?_,λk e=>.inr e,.inl pj.out.1,.inl pj.out.2.2,.inl pj.out.2.1,zB.out,?_,Ry.out,rm.out,?_,aDK.out⟩
      ·rcases e with e | e
       ·exact .inl (.inl e)
       ·exact .inr e.1
      ·rcases e with e | e
       ·have:=auY.out k e; omega
       ·exact e.2
      ·rcases e with e | e
       ·exact eu.out k e
       ·right; right; right; omega
      ·have e:(!(pre ++ [((⟨xh,xf,xt,xs,xA,j,xc⟩,cc):CV×Np.Copy)]).isEmpty)=true:=by simp
       rw[e];exact SL.out
      ·rw[rr.out,<-Zp rv.out];exact mA.out
end
end Go.Proofs.YtbfbobfbgabjiaaGreatDoor
