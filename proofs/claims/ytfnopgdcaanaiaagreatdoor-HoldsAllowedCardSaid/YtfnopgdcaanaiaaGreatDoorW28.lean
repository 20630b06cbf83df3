/- Parts of the proof. No condition. -/
import Derived.Test.YtfnopgdcaanaiaaGreatDoorW21
import Derived.Test.YtfnopgdcaanaiaaGreatDoorW22
import Derived.Test.YtfnopgdcaanaiaaGreatDoorW24
import Derived.Test.YtfnopgdcaanaiaaGreatDoorW25
import Derived.Test.YtfnopgdcaanaiaaGreatDoorW26
import Derived.Test.YtfnopgdcaanaiaaGreatDoorW27
set_option linter.all false
set_option maxRecDepth 100000
set_option maxHeartbeats 8000000
namespace Go.Proofs.YtfnopgdcaanaiaaGreatDoor
open Go.Proofs.Tryz
section
open Go.RowKit Go.Shelf Go.MapKept
attribute [local go_sem] Oper.semAt_some CV.cells
def yt(z:ByteArray):Value->Value
 | .agg xs=>.agg (#[.string z]++xs ++ #[.slice none 0 0,.slice none 0 0])
 | _=>undef
def BT:Value->Value
 | .tuple xs=>xs.getD 0 undef
 | _=>undef
def En:Value->Value
 | .tuple xs=>xs.getD 1 undef
 | _=>undef
def gj(g n cap q:Nat)(fA:Option Addr)(fn fc cb:Nat)(xf xt:Int)(e12:Value)(e13:Value)(i:Nat):Value:=[.slice (some ⟨g,0,none⟩) n cap,.int .i64 (q:Nat),.slice (some ⟨g,0,none⟩) n cap,.int .i64 (q:Nat),.pointer (some ⟨g,q * 8,none⟩),.pointer (some ⟨g,q * 8+6,none⟩),.slice fA fn fc,.pointer (some ⟨cb,1,none⟩),.int .i64 xf,.pointer (some ⟨cb,2,none⟩),.int .i64 xt,.agg #[.int .i64 xf,.int .i64 xt],e12,e13,.pointer (some ⟨g,q * 8,none⟩),.pointer (some ⟨g,q * 8+6,none⟩),undef].getD i undef
def jo(i:Nat):Nat:=[62,63,64,65,66,67,68,69,70,71,72,73,74,75,76,77,0].getD i 0
def ZT:List Nat:=[0,1,2,3,4,5,6,7,8,9,10,11,14,15,12,13].map jo
theorem oV:∀ i∈[0,1,2,3,4,5,6,7,8,9,10,11,14,15,12,13],jo i<101/\jo i∈ZT:=by decide
theorem qQ:∀ i∈[0,1,2,3,4,5,6,7,8,9,10,11,14,15,12,13],∀ j∈[0,1,2,3,4,5,6,7,8,9,10,11,14,15,12,13],j≠i->jo i≠jo j:=by decide
def ky(oA:Option Addr)(m oc:Nat)(z ss:ByteArray)(sty slf:Int)(dA:Option Addr)(dn dc:Nat)(gA:Option Addr)(gn gc:Nat)(e3:Value)(e5:Value)(e6:Value)(i:Nat):Value:=[.slice oA m oc,.string z,.agg #[.string ss,.int .i64 sty,.int .i64 slf,.slice dA dn dc,.slice gA gn gc],e3,yt z e3,e5,e6,undef].getD i undef
def mN(i:Nat):Nat:=[52,53,54,55,56,57,58,0].getD i 0
def ZR:List Nat:=[0,1,2,4,3,5,6].map mN
theorem tV:∀ i∈[0,1,2,4,3,5,6],mN i<101/\mN i∈ZR:=by decide
theorem wv:∀ i∈[0,1,2,4,3,5,6],∀ j∈[0,1,2,4,3,5,6],j≠i->mN i≠mN j:=by decide
def oX(g n cap q:Nat)(fA:Option Addr)(fn fc:Nat)(e7:Value)(i:Nat):Value:=[.slice (some ⟨g,0,none⟩) n cap,.int .i64 (q:Nat),.slice (some ⟨g,0,none⟩) n cap,.int .i64 (q:Nat),.pointer (some ⟨g,q * 8,none⟩),.pointer (some ⟨g,q * 8+6,none⟩),.slice fA fn fc,e7,e7,BT e7,En e7,.pointer (some ⟨g,q * 8,none⟩),.pointer (some ⟨g,q * 8+6,none⟩),undef].getD i undef
def oW(i:Nat):Nat:=[87,88,89,90,91,92,93,94,86,95,96,97,98,0].getD i 0
def ZU:List Nat:=[0,1,2,3,4,5,6,8,9,10,11,12,7].map oW
theorem El:∀ i∈[0,1,2,3,4,5,6,8,9,10,11,12,7],oW i<101/\oW i∈ZU:=by decide
theorem Em:∀ i∈[0,1,2,3,4,5,6,8,9,10,11,12,7],∀ j∈[0,1,2,3,4,5,6,8,9,10,11,12,7],j≠i->oW i≠oW j:=by decide
def psP(PP:List (Np.Span×Np.Signed))(sp:Np.Span)(sets:List Np.Signed)(j:Nat):List (Np.Span×Np.Signed):=PP++(sets.take j).map λs=>(sp,s)
theorem ZQ(PP:List (Np.Span×Np.Signed))(sp:Np.Span)(sets:List Np.Signed):psP PP sp sets 0=PP:=by simp[psP]
theorem ZM{PP:List (Np.Span×Np.Signed)}{sp:Np.Span}{sets:List Np.Signed}{j:Nat}(h:sets.length=j):psP PP sp sets j=PP++sets.map λs=>(sp,s):=by unfold psP;rw[kQ (by omega)]
theorem ZP{PP:List (Np.Span×Np.Signed)}{sp:Np.Span}{sets:List Np.Signed}{j:Nat}{x:Np.Signed}(h:sets[j]?=some x):psP PP sp sets (j+1)=psP PP sp sets j ++ [(sp,x)]:=by
 obtain⟨hl,he⟩:=cQ.1 h;unfold psP;rw[fQ hl,he,List.map_append,List.append_assoc];rfl
theorem ZO{PP:List (Np.Span×Np.Signed)}{sp:Np.Span}{sets:List Np.Signed}{j:Nat}{p:Np.Span×Np.Signed}(h:p∈psP PP sp sets j):p∈PP++sets.map λs=>(sp,s):=by
 rcases List.mem_append.1 h with h | h
 ·exact List.mem_append.2 (.inl h)
 ·obtain⟨s,hs,rfl⟩:=List.mem_map.1 h;exact List.mem_append.2 (.inr (List.mem_map.2 ⟨s,List.mem_of_mem_take hs,rfl⟩))
theorem ZN(PP:List (Np.Span×Np.Signed))(sp:Np.Span)(sets:List Np.Signed)(j:Nat):(psP PP sp sets j).length<=(PP++sets.map λs=>(sp,s)).length:=by
 unfold psP;simp only[List.length_append,List.length_map,List.length_take];omega
theorem ZL{a b:List (CV×Np.Copy)}(h:a <+: b):∃ c,((b.map (·.2)).flatMap Np.oU)=((a.map (·.2)).flatMap Np.oU)++c:=by
 obtain⟨c,rfl⟩:=h;exact⟨(c.map (·.2)).flatMap Np.oU,by rw[List.map_append,List.flatMap_append]⟩
def CK(w6:World)(bo bt bm:Nat)(zn:ByteArray)(pre:List (CV×Np.Copy))(S:Nat->Prop)(W:World):Prop:=
 ∃ (xs:List PT) (ov:Value) (M:Nat->Prop),S bo/\S bt/\S bm/\(∀ k,sU xs ov k->S k)/\(∀ k,S k->k=bo\/k=bt\/k=bm\/w6.heap.size<=k)/\(∀ k,¬ S k->M k)/\M bo/\M bt/\M bm/\
   Boxed W bo 52 ov/\Boxed W bt 4 (.bool (!pre.isEmpty))/\dj bm (Np.nP (xs.map (·.1))) W/\PubR w6.heap.size M zn xs ov W/\xs.map (λx=>(x.1,x.2.1))=Np.eO ((pre.map (·.2)).flatMap Np.oU)/\RdStep (λk=>k=bo\/k=bt\/k=bm) w6 W
theorem Pr(w6:World)(bo bt bm:Nat)(zn:ByteArray):fL w6.heap.size (CK w6 bo bt bm zn):=by
 rintro pre S W W' ⟨xs,ov,M,h1,h2,h3,h4,h5,h6,m1,m2,m3,h7,h8,h9,xO,GR,sZ⟩ ay;refine⟨xs,ov,M,h1,h2,h3,h4,h5,h6,m1,m2,m3,kg h7 ay h1,kg h8 ay h2,h9.stays (ay.keep bm h9.lt (.inr h3)),?_,GR,⟨ay.os.trans sZ.os,ay.tape.trans sZ.tape,ay.output.trans sZ.output,yQ sZ.size ay.size,λk hk mp=>(ay.keep k (lQ hk sZ.size) (.inl hk)).trans (sZ.keep k hk mp)⟩⟩;exact xO.leaves ⟨ay.os,ay.tape,ay.output,ay.size,λi hi hm=>⟨hm,ay.keep i hi (.inr (Classical.byContradiction λhs=>hm (h6 i hs)))⟩⟩ (λg hg=>⟨ay.keep g (xO.lt hg).2.1 (.inr (h4 g hg)),(xO.lt hg).2.2⟩)
theorem ZY{w6:World}{bo bt bm:Nat}{zn:ByteArray}{pre:List (CV×Np.Copy)}{S:Nat->Prop}{W W':World}(h:CK w6 bo bt bm zn pre S W)(hb:Below W.heap.size W W'):CK w6 bo bt bm zn pre S W':=by
 obtain⟨xs,ov,M,h1,h2,h3,h4,h5,h6,m1,m2,m3,h7,h8,h9,xO,GR,sZ⟩:=h;exact⟨xs,ov,M,h1,h2,h3,h4,h5,h6,m1,m2,m3,cD h7 hb h7.lt,cD h8 hb h8.lt,h9.keep hb h9.lt,xO.keep hb,GR,sZ.then_below hb⟩
theorem Ma{w:World}{B:Nat}{L:List (CV×Np.Copy)}(h:∀ x∈L,CVOf w B x.1 x.2)(z:List UInt8):((L.filter λx=>x.1.str.data.toList == z).map (·.2)).flatMap Np.oU=Np.dR (L.map (·.2)) z:=by
 unfold Np.dR Np.uO;congr 1
 induction L with
 | nil=>rfl
 | cons x L ih=>
  have hx:=h x (by simp);have ih:=ih (λy hy=>h y (mQ _ hy));rw[List.map_cons,List.filter_cons,List.filter_cons,hx.apex];split
  ·rw[List.map_cons,ih]
  ·exact ih
theorem Z6(e:List Value)(h:Np.Hist)(hf:Np.yM h)(Of:Np.kR h)(z:ByteArray)(hz:z.size<=140737488355328)(hp:(Np.dR h.copies z.data.toList).length<=5000)(w:World)(hR:iR w w.heap.size)(hP:fK w)(hh:iz w w.heap.size e h) :
 Calls prog 61 #[.agg e.toArray,.string z] w λe w'=>((¬ Np.uH h z.data.toList/\e = .returned (.tuple #[.slice none 0 0,.int .i64 1]))\/(Np.uH h z.data.toList/\((¬ Np.xC h z.data.toList/\e = .returned (.tuple #[.slice none 0 0,.int .i64 4]))\/(Np.xC h z.data.toList/\∃ v',e = .returned (.tuple #[v',.int .i64 0])/\gZ ie 8 0 w.heap.size w' v' (Np.pub h.copies z.data.toList)))))/\Below w.heap.size w w':=by
 have F7:=jq hh;obtain⟨hv,cv,s,dv,dV,rfl,bp,iX,h3,h4,h5,h6⟩:=hh;obtain⟨ty,dC⟩:=aCQ h.anchor.type;obtain⟨life,In⟩:=aCQ h.anchor.life;obtain⟨drift,Nj⟩:=aCQ h.drift;obtain⟨stop,lS⟩:=aCQ h.stop;have H3:=jq h3;have H4:=jq h4;have H5:=jq h5;have H6:=jq h6;have HS:=jq (And.intro bp iX);have rc:=jq hf;have dF:=jq lS;have bZ:=jq (And.intro dC In);obtain⟨A1,c1,rfl,_,_⟩:=ak h3;obtain⟨A2,c2,rfl,_,_⟩:=ak h4;obtain⟨A3,c3,rfl,_,_⟩:=ak h5;obtain⟨A4,c4,rfl,_,_⟩:=ak h6;clear h3 h4 h5 h6 bp iX hf;obtain⟨n1,bU⟩:=aCQ h.hosts.length;obtain⟨n2,cV⟩:=aCQ h.copies.length;obtain⟨n3,eY⟩:=aCQ h.anchor.data.length;obtain⟨n4,fI⟩:=aCQ h.hints.length;rw[bU] at H3;rw[cV] at H4;rw[eY] at H5;rw[fI] at H6;rw[bU,cV,eY,fI,dC,In,Nj,lS] at F7 |-;have ux:=jq cV;clear bU cV eY fI dC In Nj lS;obtain⟨r,hr⟩:=aCQ (Np.yes (Np.VHist h));have uD:=jq hr;clear hr;obtain⟨X,hX⟩:=aCQ w.heap.size;obtain⟨W1,ap⟩:=aCQ ((((w.alloc (.cells #[.slice A1 n1 c1,.slice A2 n2 c2,.string s,.int .i64 ty,.int .i64 life,.slice A3 n3 c3,.slice A4 n4 c4,.int .i64 drift,.int .i64 stop] 29)).alloc (.cells #[.string z] 9)).alloc (.cells #[.slice none 0 0] 52)).alloc (.cells #[.int .i64 0] 37));have aD:Below w.heap.size w W1:=by rw[<-ap];exact ((((vQ _ _).alloc (bQ _) _).alloc (by simp <;> omega) _).alloc (by simp <;> omega) _).alloc (by simp <;> omega) _
 have jR:W1.heap.size=X+4:=by rw[<-ap,<-hX];simp
 have k0:W1.cell? ⟨X,0,none⟩=some (.slice A1 n1 c1):=by rw[<-ap,<-hX];simp[go_sem]
 have k1:W1.cell? ⟨X,1,none⟩=some (.slice A2 n2 c2):=by rw[<-ap,<-hX];simp[go_sem]
 have k2:W1.cell? ⟨X,2,none⟩=some (.string s):=by rw[<-ap,<-hX];simp[go_sem]
 have k3:W1.cell? ⟨X,3,none⟩=some (.int .i64 ty):=by rw[<-ap,<-hX];simp[go_sem]
 have k4:W1.cell? ⟨X,4,none⟩=some (.int .i64 life):=by rw[<-ap,<-hX];simp[go_sem]
 have k5:W1.cell? ⟨X,5,none⟩=some (.slice A3 n3 c3):=by rw[<-ap,<-hX];simp[go_sem]
 have k6:W1.cell? ⟨X,6,none⟩=some (.slice A4 n4 c4):=by rw[<-ap,<-hX];simp[go_sem]
 have k7:W1.cell? ⟨X,7,none⟩=some (.int .i64 drift):=by rw[<-ap,<-hX];simp[go_sem]
 have k8:W1.cell? ⟨X,8,none⟩=some (.int .i64 stop):=by rw[<-ap,<-hX];simp[go_sem]
 have kz:W1.cell? ⟨X+1,0,none⟩=some (.string z):=by rw[<-ap,<-hX];simp[go_sem]
 have HO:Hid (Boxed W1 (X+1+1) 52 (.slice none 0 0)):=jq (by
  rw[<-ap,<-hX]
  have:=(Boxed.new ((w.alloc (.cells #[.slice A1 n1 c1,.slice A2 n2 c2,.string s,.int .i64 ty,.int .i64 life,.slice A3 n3 c3,.slice A4 n4 c4,.int .i64 drift,.int .i64 stop] 29)).alloc (.cells #[.string z] 9)) 52 (.slice none 0 0)).alloc (.cells #[.int .i64 0] 37)
  simpa using this)
 have HE:Hid (Boxed W1 (X+1+1+1) 37 (.int .i64 0)):=jq (by
  rw[<-ap,<-hX]
  have:=Boxed.new (((w.alloc (.cells #[.slice A1 n1 c1,.slice A2 n2 c2,.string s,.int .i64 ty,.int .i64 life,.slice A3 n3 c3,.slice A4 n4 c4,.int .i64 drift,.int .i64 stop] 29)).alloc (.cells #[.string z] 9)).alloc (.cells #[.slice none 0 0] 52)) 37 (.int .i64 0)
  simpa using this)
 have fV:=jq hR;have kH:=jq hP;have Gd:=jq Of;have rk:=jq hp;have pm:Hid (1<w.heap.size):=jq hP.lt;rw[hX] at aD H3 H4 H5 H6 F7 fV pm |-;have aZ:=jq aD;clear aD hR hP Of hp;refine (callsIn_wide (n:=0)).1 ?_;refine callsIn_of_wp_marks func61 rfl trivial ?_ rfl;simp only[ntmps61,List.size_toArray,List.length_cons,List.length_nil,Nat.reduceAdd,Nat.reduceSub,Array.replicate_succ,Array.replicate_zero,List.push_toArray,List.append_toArray,List.nil_append,List.cons_append];gi_wp2_with fail;refine⟨trivial,rfl,?_⟩;refine (callsIn_wide.2 (Nx _ h rc.out W1 ((fV.out.keep aZ.out).more (by omega)) (o4 _ _ _ _ _ (oZ _ _ _ _ _ F7.out aZ.out) (by omega)))).mono ?_;rw[uD.out];rintro e w2 ⟨rfl,ae⟩;have aK:=ae.size;have m0:=aBX ae k0;have m1:=aBX ae k1;have m2:=aBX ae k2;have m3:=aBX ae k3;have m4:=aBX ae k4;have m5:=aBX ae k5;have m6:=aBX ae k6;have m7:=aBX ae k7;have m8:=aBX ae k8;have mz:=aBX ae kz;have eH:=jq (aEX HO.out ae);have l4:=jq (aEX HE.out ae);have ai:=aBY aZ ae;clear ae ap hX k0 k1 k2 k3 k4 k5 k6 k7 k8 kz
 cases r with
 | false=>
  have HN:Hid (¬ Np.VHist h):=jq (λh=>by have:=Np.ba h;rw[uD.out] at this;cases this);have y0:=eH.out.cell;have y1:=eH.out.frozen;have z0:=l4.out.cell;have z1:=l4.out.frozen;gi_wp2_with fail;refine⟨trivial,?_⟩;gi_wp2_with fail;obtain⟨W,hW⟩:=aCQ ((w2.setCell ⟨X+1+1,0,none⟩ (.slice none 0 0)).setCell ⟨X+1+1+1,0,none⟩ (.int .i64 1));have Fl:Hid (Below X w W):=jq (by rw[<-hW];exact ((ai.out.setCell (p:=⟨X+1+1,0,none⟩) (by dsimp only;omega) _).setCell (p:=⟨X+1+1+1,0,none⟩) (by dsimp only;omega) _));have e0:W.cell? ⟨X+1+1,0,none⟩=some (.slice none 0 0):=by rw[<-hW];simp[go_sem,y0]
  have e1:W.cell? ⟨X+1+1+1,0,none⟩=some (.int .i64 1):=by rw[<-hW];simp[go_sem,z0]
  rw[hW];exact kh (v:=.tuple #[.slice none 0 0,.int .i64 1]) (by simp[results,results61,go_sem,e0,e1]) ⟨.inl ⟨λh=>HN.out h.1,rfl⟩,Fl.out⟩
 | true=>
  have HV:Hid (Np.VHist h):=jq (Np.fj.1 uD.out);gi_wp2_with fail;refine⟨trivial,rfl,?_⟩;refine (callsIn_wide.2 (nameValid_any z hz _)).mono ?_;rintro e w3 ⟨rfl,al⟩;have eF:=al.size;replace m0:=aBX al m0;replace m1:=aBX al m1;replace m2:=aBX al m2;replace m3:=aBX al m3;replace m4:=aBX al m4;replace m5:=aBX al m5;replace m6:=aBX al m6;replace m7:=aBX al m7;replace m8:=aBX al m8;replace mz:=aBX al mz;have ia:=jq (aEX eH.out al);have sH:=jq (aEX l4.out al);have am:=aBY ai al;clear al
  cases gd:Np.aA z.data.toList with
  | false=>
   have iN:=jq gd;clear gd;have y0:=ia.out.cell;have y1:=ia.out.frozen;have z0:=sH.out.cell;have z1:=sH.out.frozen;gi_wp2_with fail;obtain⟨W,hW⟩:=aCQ ((w3.setCell ⟨X+1+1,0,none⟩ (.slice none 0 0)).setCell ⟨X+1+1+1,0,none⟩ (.int .i64 1));have Fl:Hid (Below X w W):=jq (by rw[<-hW];exact ((am.out.setCell (p:=⟨X+1+1,0,none⟩) (by dsimp only;omega) _).setCell (p:=⟨X+1+1+1,0,none⟩) (by dsimp only;omega) _));have e0:W.cell? ⟨X+1+1,0,none⟩=some (.slice none 0 0):=by rw[<-hW];simp[go_sem,y0]
   have e1:W.cell? ⟨X+1+1+1,0,none⟩=some (.int .i64 1):=by rw[<-hW];simp[go_sem,z0]
   rw[hW];exact kh (v:=.tuple #[.slice none 0 0,.int .i64 1]) (by simp[results,results61,go_sem,e0,e1]) ⟨.inl ⟨λh=>absurd h.2 (by rw[iN.out];simp),rfl⟩,Fl.out⟩
  | true=>
   have iN:=jq gd;have bl:Hid (Np.uH h z.data.toList):=jq ⟨HV.out,gd⟩;clear gd;have hX4:X+4<=w3.heap.size:=by omega
   have lN:∀ (w:World),(Instr.makeMap 213 none).run prog w = .ok (.map (some w.heap.size)) (w.alloc (.map #[] 0)):=λw=>by
    simp[Instr.makeMap,Result.andThen]
   obtain⟨Bh,Ar⟩:=aCQ w3.heap.size;obtain⟨w4,bS⟩:=aCQ ((((w3.alloc (.cells #[.slice none 0 0] 52)).alloc (.cells #[.bool false] 4)).alloc (.map #[] 0)).alloc (.cells #[.map (some (Bh+1+1))] 213));have aw:Below w3.heap.size w3 w4:=by rw[<-bS];exact ((((vQ _ _).alloc (bQ _) _).alloc (by simp) _).alloc (by simp <;> omega) _).alloc (by simp <;> omega) _
   have fd:w4.heap.size=Bh+4:=by rw[<-bS,<-Ar];simp
   have v0:=aBX aw m0;have v1:=aBX aw m1;have v2:=aBX aw m2;have v3:=aBX aw m3;have v4:=aBX aw m4;have v5:=aBX aw m5;have v6:=aBX aw m6;have v7:=aBX aw m7;have v8:=aBX aw m8;have vz:=aBX aw mz;have Cs:=jq (aEX ia.out aw);have RG:=jq (aEX sH.out aw);have aP:=aBY am aw;have Rm:Hid (Boxed w4 Bh 52 (.slice none 0 0)):=jq (by
    rw[<-bS,<-Ar];exact (((Boxed.new w3 52 (.slice none 0 0)).alloc _).alloc _).alloc _)
   have Ro:Hid (Boxed w4 (Bh+1) 4 (.bool false)):=jq (by
    rw[<-bS,<-Ar]
    have:=((Boxed.new (w3.alloc (.cells #[.slice none 0 0] 52)) 4 (.bool false)).alloc (.map #[] 0)).alloc (.cells #[.map (some (w3.heap.size+1+1))] 213)
    simpa using this)
   have Rj:Hid (dj (Bh+1+1) [] w4):=jq (by
    rw[<-bS,<-Ar]
    have:=(dj.made ((w3.alloc (.cells #[.slice none 0 0] 52)).alloc (.cells #[.bool false] 4))).stays (w':=((((w3.alloc (.cells #[.slice none 0 0] 52)).alloc (.cells #[.bool false] 4)).alloc (.map #[] 0)).alloc (.cells #[.map (some (w3.heap.size+1+1))] 213))) (Below.heap_alloc _ _ _ (by simp))
    simpa using this)
   have Rs:Hid (Boxed w4 (Bh+1+1+1) 213 (.map (some (Bh+1+1)))):=jq (by
    rw[<-bS,<-Ar]
    have:=Boxed.new (((w3.alloc (.cells #[.slice none 0 0] 52)).alloc (.cells #[.bool false] 4)).alloc (.map #[] 0)) 213 (.map (some (w3.heap.size+1+1)))
    simpa using this)
   clear m0 m1 m2 m3 m4 m5 m6 m7 m8 mz;gi_wp2_with fail;clear lN aw;refine⟨trivial,rfl,?_⟩;refine (callsIn_wide.2 (Uj _ _ _ _ _ _ _ _ _ 138 #[.pointer (some ⟨X+1,0,none⟩)] w4)).mono ?_;rintro e w6 ⟨rfl,cj⟩;have iq:w6.heap.size=Bh+6:=by rw[cj];simp;omega
   have aR:Below w4.heap.size w4 w6:=by rw[cj];exact ((vQ _ _).alloc (bQ _) _).alloc (by simp) _
   have kX:w6.cell? ⟨Bh+4,1,none⟩=some (.slice A2 n2 c2):=by rw[cj,<-fd];simp[go_sem]
   have kO:w6.cell? ⟨Bh+4+1,0,none⟩=some (.func (.func 138) #[] #[.pointer (some ⟨X+1,0,none⟩)]):=by rw[cj,show Bh+4+1=w4.heap.size+1 by omega];simp[go_sem]
   rw[fd];obtain⟨L,ii,lI,pC⟩:=Ux (H4.out.keep oY (aP.out.trans (aR.aDQ)));have sK:=jq (aBX aR vz);have uq:=jq (Uk L (λx=>x.1.str.data.toList == z.data.toList) 138 #[.pointer (some ⟨X+1,0,none⟩)] (Bh+4) (Bh+4+1) n2 c2 (λk=>k<w6.heap.size/\¬ (k=Bh\/k=Bh+1\/k=Bh+1+1)) A2 w6 ⟨by omega,by omega⟩ ⟨by omega,by omega⟩ kX kO lI (by have:=rc.out.1;have:=ux.out;omega)
    (λi x hx=>by
      obtain⟨_,b,o,h1,h2,h3⟩:=pC i x hx;exact⟨b,o,h1,⟨by omega,by omega⟩,h3⟩) UI
    (λx hx W hW=>by
      have h1:=(hW.cell (p:=⟨X+1,0,none⟩) ⟨by dsimp only;omega,by dsimp only;omega⟩).trans sK.out
      have:=hW.1
      exact ZS x.1.host x.1.frm x.1.til x.1.str _ x.1.A x.1.n x.1.c rfl (X+1) z W (by omega) h1))
   have ri:=jq (aEX Cs.out aR);have RI:=jq (aEX RG.out aR);have Rn:=jq (aEX Rm.out aR);have Rp:=jq (aEX Ro.out aR);have Rk:Hid (dj (Bh+1+1) [] w6):=jq (Rj.out.keep aR (by omega));have Rt:=jq (aEX Rs.out aR);have du:=aBY aP aR;have mY:=jq ii;have po:Hid (∀ x∈L,CVOf w6 X x.1 x.2):=jq (λx hx=>by obtain⟨i,hi⟩:=List.mem_iff_getElem?.1 hx;exact (pC i x hi).1);clear aR cj bS kX kO ii pC v0 v1 v2 v3 v4 v5 v6 v7 v8 vz;have Ln:=jq iq;gi_wp2_with fail;refine EO (Dr:=λk=>k<w6.heap.size/\¬ (k=Bh\/k=Bh+1\/k=Bh+1+1)) (w0:=w6) (first:=#[]) (captured:=#[.pointer (some ⟨Bh+4,0,none⟩),.pointer (some ⟨Bh+4+1,0,none⟩)]) (gf:=141) rfl UF (mk:=λy=>#[y,.pointer (some ⟨Bh+4,0,none⟩),.pointer (some ⟨Bh+4+1,0,none⟩)]) (λ_=>rfl)
    uq.out (eB.refl λk e=>e.1) (λ_=>rfl) (CK w6 Bh (Bh+1) (Bh+1+1) z) (λ_ _ _ _=>False)
    (Pr _ _ _ _ _) (λc s S W W' h _=>h)
    (λk=>k=Bh\/k=Bh+1\/k=Bh+1+1) (λk h1 h2=>h2.2 h1) (by intro k h;omega)
    ⟨[],.slice none 0 0,λk=>k=Bh\/k=Bh+1\/k=Bh+1+1\/¬ (k=Bh\/k=Bh+1\/k=Bh+1+1),.inl rfl,.inr (.inl rfl),.inr (.inr rfl),(λk e=>by rcases e with e | ⟨x,hx,_⟩;cases e;cases hx),(λk e=>by omega),(λk e=>.inr (.inr (.inr e))),.inl rfl,.inr (.inl rfl),.inr (.inr (.inl rfl)),Rn.out,Rp.out,Rk.out,PubR.nil _ _ _ _,rfl,RdStep.refl _ _⟩ ?round ?done ?stop
   case stop=>
    rintro D c pre S W hD gw bj ga h hK;exact h.elim
   case done=>
    rintro D S W hD gw bj ⟨us,ov,M,Dq,AD,Dp,hown,AC,AB,mbo,mbt,mbm,tc,rA,ta,xR,yc,aI⟩ hK;obtain⟨te,IJ⟩:=aCQ ((L.filter λx=>x.1.str.data.toList == z.data.toList).isEmpty);have Ko:Hid (Np.xC h z.data.toList↔te=false):=jq (by
     rw[<-IJ,List.isEmpty_eq_false_iff_exists_mem];constructor
     ·rintro⟨c,hc,hz⟩;rw[<-mY.out] at hc;obtain⟨x,hx,rfl⟩:=List.mem_map.1 hc;exact⟨x,List.mem_filter.2 ⟨hx,by rw[(po.out x hx).apex,hz];simp⟩⟩
     ·rintro⟨x,hx⟩;obtain⟨h1,h2⟩:=List.mem_filter.1 hx;refine⟨x.2,by rw[<-mY.out];exact List.mem_map.2 ⟨x,h1,rfl⟩,?_⟩;rw[<-(po.out x h1).apex];simpa using h2)
    rw[IJ] at rA;have lC:Hid (us.map (λx=>(x.1,x.2.1))=Np.eO (Np.dR h.copies z.data.toList)):=jq (by rw[yc,Ma po.out,mY.out]);have rt:=aI.size;have yY:Hid (D<W.heap.size):=jq (eQ.1 hK).1;have pz:Below X w6 W:=aI.below (by omega) (λk e=>by omega);have wW:Hid (Below X w W):=aBY du pz;have iw:Hid (Boxed W (X+1+1) 52 (.slice none 0 0)):=jq ((aI.keep (X+1+1) (by omega) (by omega)).trans ri.out);have Ft:Hid (Boxed W (X+1+1+1) 37 (.int .i64 0)):=jq ((aI.keep (X+1+1+1) (by omega) (by omega)).trans RI.out);have Fc:=jq tc;have xr:=jq gw;have fl:=jq AC;have zb:=jq hK;have FX:=jq (PubK.start xR AB hown);have t0:=rA.cell;clear IJ yc aI pz tc rA ta xR AB hown AC gw hK mbo mbt mbm Dq AD Dp bj;have Dw:X+1+1≠D:=by omega
    have Di:X+1+1+1≠D:=by omega
    cases te with
    | true=>
     simp only[Bool.not_true] at t0;have o0:=iw.out.cell;have o1:=iw.out.frozen;have q0:=Ft.out.cell;have q1:=Ft.out.frozen;gi_wp2_with fail;obtain⟨W',hW'⟩:=aCQ ((W.setCell ⟨X+1+1,0,none⟩ (.slice none 0 0)).setCell ⟨X+1+1+1,0,none⟩ (.int .i64 4));have D8:W'.heap.size=W.heap.size:=by rw[<-hW'];simp
     have DK:∀ k,k≠X+1+1->k≠X+1+1+1->W'.heap[k]?=W.heap[k]?:=λk h1 h2=>by rw[<-hW'];exact (wQ _ _ _ k h2).trans (wQ _ _ _ k h1)
     have GU:Below X w W':=by rw[<-hW'];exact ((wW.out.setCell (p:=⟨X+1+1,0,none⟩) (by dsimp only;omega) _).setCell (p:=⟨X+1+1+1,0,none⟩) (by dsimp only;omega) _)
     have tA:W'.os=W.os/\W'.tape=W.tape/\W'.output=W.output:=by rw[<-hW'];simp[World.setCell]
     have G3:W'.heap[D]?=some (.deferred (some [])):=(DK D (Ne.symm Dw) (Ne.symm Di)).trans zb.out;have e0:W'.cell? ⟨X+1+1,0,none⟩=some (.slice none 0 0):=by rw[<-hW'];simp[go_sem,o0]
     have e1:W'.cell? ⟨X+1+1+1,0,none⟩=some (.int .i64 4):=by rw[<-hW'];simp[go_sem,q0]
     have f0:=(iQ (w:=W') (w':=W'.putObj D (.deferred none)) (a:=⟨X+1+1,0,none⟩) (zQ Dw)).trans e0;have f1:=(iQ (w:=W') (w':=W'.putObj D (.deferred none)) (a:=⟨X+1+1+1,0,none⟩) (zQ Di)).trans e1;rw[hW'];refine nu G3 (v:=.tuple #[.slice none 0 0,.int .i64 4]) (by simp[results,results61,go_sem,f0,f1]) ⟨.inr ⟨bl.out,.inl ⟨(λh=>by have:=Ko.out.1 h;cases this),rfl⟩⟩,me GU (by omega) _⟩
    | false=>
     simp only[Bool.not_false] at t0;obtain⟨n,hn⟩:=aCQ us.length;obtain⟨oA,oc,rfl⟩:=FX.out.rows.row.formN hn;have KI:=jq hn;have b0:=Fc.out.cell;obtain⟨PS,Dm⟩:=aCQ (Np.dR h.copies z.data.toList);have nc:=jq Dm;rw[Dm] at lC;have KE:Hid ((Np.eO PS).length=n):=jq (by rw[<-lC.out,List.length_map];exact hn);have It:n<=5000:=by rw[<-hn];have h1:=O4 lC.out;have h2:=rk.out;rw[Dm] at h2;omega
     clear hn Dm;gi_wp2_with fail;gi_loopw [83] (λI wr=>∃ (i:Nat) (us':List PT) (ov':Value) (M':Nat->Prop),i<=n/\I = .int .i64 i/\W.heap.size<=wr.heap.size/\Hid (us'.length=n)/\Hid (Boxed wr Bh 52 ov')/\Hid (PubK S W w6.heap.size z M' us' ov' wr)/\Hid (us'.map (λx=>(x.1,x.2.1))=qN (Np.eO PS) i)) (λI _=>n - (intOf I).toNat)
     case atStart=>exact⟨0,us,_,_,jQ _,rfl,bQ _,KI,Fc,FX,jq (by rw[Zs];exact lC.out)⟩
     case round=>
      clear Fc FX lC KI b0 t0;obtain⟨i,us',ov',M',hi,rfl,Yh,xo,wT,gM,FK⟩:=hrel;by_cases aa:i<n
      ·obtain⟨g,cap,rfl,dU,Id,vt⟩:=gM.out.rows.row.formSome xo.out (by omega);have Ks:Hid (i<(Np.eO PS).length):=jq (by rw[KE.out];exact aa);obtain⟨⟨xs,xt,xv⟩,hx,hl⟩:=Pc FK.out Ks.out;dsimp only at hl;have D0:=Np.O5 hl;have tz:aN w6.heap.size wr xv xt:=gM.out.rows.fresh _ (gQ hx);have Kk:Hid (SlR eJ 2 wr wr.heap.size xv xt):=jq (tz.slr (by have h1:=Np.JJ PS xs;rw[<-D0] at h1;have h2:=rk.out;rw[nc.out] at h2;omega));have SJ:Hid (∀ s∈xt,Np.zP s):=jq (λs hs=>Np.Z3 (h:=h) (zone:=z.data.toList) (s:=xs) (by rw[nc.out,<-D0];exact hs) HV.out);have SP:Hid (xt.length<=20000):=jq (by have h1:=Np.JJ PS xs;rw[<-D0] at h1;have h2:=rk.out;rw[nc.out] at h2;omega);have HX:=jq hx;obtain⟨fA,fc,rfl⟩:=aN.form tz;have f6:wr.cell? ⟨g,i * 8+6,none⟩=some (.slice fA xt.length fc):=H7 gM.out.rows.row hx;obtain⟨fn,km⟩:=aCQ xt.length;rw[km] at f6 HX Kk;have b6:=wT.out.cell;have oP:(0:Int)<=(i:Int):=by omega
       have kr:(i:Int)<(n:Int):=by omega
       clear hx hl D0 tz km vt;gi_wp2_with fail;refine B5 λa0 cJ=>?_;have kC:=jq cJ;have ju:=jq (show a0.eval (.tmp 6) = .pointer (some ⟨Bh,0,none⟩) by rw[cJ];rfl);have J4:=jq (show a0.eval (.tmp 15) = .int .i64 (i:Nat) by rw[cJ];rfl);have HM:=jq (show a0.tmps.size=101 by rw[cJ];rfl);clear cJ;refine wpIn_wide.2 (wp_region_any (by kernel_rfl) ?_);refine fS 7 (D:=[0,1,2,3,4,5,6,11,12]) (val:=oX g n cap i fA fn fc undef) El Em (vp HM.out) (by kernel_rfl) ?_ ?_
       ·intro i aG bn o ho a' hb aF;have k6':=aEJ hb ju.out;have k15':=aEJ hb J4.out;simp[Act.eval] at k6' k15'
        repeat' (rcases aG with _ | ⟨_,aG⟩)
        all_goals first
         | (exfalso;simp at bn;done)
         | (cases ho
            try simp[Act.eval,Region.binds,oX,oW] at aF
            refine fw (by simp[Region.wanted]) ?_;simp[Oper.quietAt,Oper.quietUpon,execOp,go_sem,oX,k6',k15',b6,f6,oP,kr,BT,En,aF])
       ·intro f listed a' hH hr hv;have av6:=hv 6;simp[Act.eval,oX,oW] at av6;simp only[wpOp];simp[Region.wanted];refine .inl ?_;simp[Oper.wp,go_sem,av6];refine (Pa _ xt SP.out SJ.out wr.drew (Kk.out.keep iu (vQ wr.heap.size wr).drew)).mono ?_;rintro e wC ⟨v2,rfl,lO,AL⟩;have jG:Below wr.heap.size wr wC:=(vQ wr.heap.size wr).drew.trans AL;have Yc:=jG.size;replace b6:=aBX jG b6;replace f6:=aBX jG f6;have vq:=(World.frozen?_of_block (a:=⟨g,i * 8+6,none⟩) (jG.block g (by omega))).trans (gM.out.rows.row.frozenAt xo.out _);obtain⟨gA,gc,rfl⟩:=aN.form lO;obtain⟨gn,gz⟩:=aCQ ((Np.gX xt).length);rw[gz] at lO |-;have eH:=jq lO;have iK:=jq jG;clear lO jG AL gz;dsimp only;refine fS 13 (D:=[0,1,2,3,4,5,6,8,9,10,11,12,7]) (val:=oX g n cap i fA fn fc (.tuple #[.slice gA gn gc,.int .i64 0])) El Em (hH.next El Em hr) (by kernel_rfl) ?_ ?_
        ·intro i aG bn o ho a' hb aF;have k6':=aEJ hb ju.out;have k15':=aEJ hb J4.out;simp[Act.eval] at k6' k15'
         repeat' (rcases aG with _ | ⟨_,aG⟩)
         all_goals first
          | (exfalso;simp at bn;done)
          | (cases ho
             try simp[Act.eval,Region.binds,oX,oW] at aF
             refine fw (by simp[Region.wanted]) ?_;simp[Oper.quietAt,Oper.quietUpon,execOp,go_sem,oX,k6',k15',b6,f6,oP,kr,BT,En,aF])
        ·intro f listed a' hH hr hv;have av9:=hv 9;have av12:=hv 12;simp[Act.eval,oX,oW,BT] at av9 av12;simp only[wpOp];simp[Region.wanted];refine .inl ?_;simp[Oper.wp,execOp,go_sem,av9,av12,f6,vq];clear b6 f6 vq;obtain⟨W',hW'⟩:=aCQ (wC.setCell ⟨g,i * 8+6,none⟩ (.slice gA gn gc));have Kv:=jq (gM.out.normed xo.out HX.out (ps':=Np.gX xt) iK.out eH.out (by have:=gM.out.rd.size;omega));rw[hW'] at Kv |-;have fE:Below w6.heap.size wr W':=by rw[<-hW'];exact (iK.out.mono (by have:=gM.out.rd.size;omega)).setCell (by dsimp only;omega) _
         have dI:=jq (aEX wT.out fE);clear fE;have D6:W'.heap.size=wC.heap.size:=by rw[<-hW'];simp[World.setCell]
         refine axX (R:=[10]) (D:=[0,1,2,3,4,5,6,8,9,10,11,12,7]) (dst:=oW) (val:=oX g n cap i fA fn fc (.tuple #[.slice gA gn gc,.int .i64 0])) (a0:=a0) (m:=101) HM.out (QP (by kernel_rfl)) (by simp) (λi hi=>?_) (λi hi=>by simp at hi;subst hi;exact⟨_,rfl,rfl⟩) (λi hi=>(El i hi).1) Em (λi hi o ho e he hb=>?_) (λi hi o ho a' aF=>?_) ?_ _ _ _ (hH.rest hr (by simp) (by kernel_rfl))
         ·simp at hi |-;omega
         ·simp at hi;subst hi
          cases ho
          simp at he;rcases he with rfl | rfl
          ·simp
          ·simp[Region.binds] at hb
         ·simp at hi;subst hi
          cases ho
          simp[Act.eval,Region.binds,oX,oW] at aF;refine fw (by simp[Region.wanted]) ?_;simp[Oper.quietAt,Oper.quietUpon,execOp,go_sem,oX,BT,En,aF]
         ·rw[kC.out];simp[kA,Act.put,oX,oW];clear hv hH;gi_wp2_with fail;go_roundw
          case measure=>simp[intOf] <;> omega
          case rel=>exact⟨i+1,_,_,_,by omega,by go_num,by omega,jq (by rw[List.length_set];exact xo.out),dI,Kv,jq (Zr FK.out Ks.out HX.out _)⟩
      ·obtain rfl:i=n:=by omega
       obtain⟨oA',oc',rfl⟩:=gM.out.rows.row.formN xo.out;have b0:=wT.out.cell;have MU:¬ S (X+1+1):=λe=>by have:=fl.out _ e;omega
       have Dj:¬ S (X+1+1+1):=λe=>by have:=fl.out _ e;omega
       have KN:Hid (Boxed wr (X+1+1) 52 (.slice none 0 0)):=jq ((gM.out.rd.keep (X+1+1) (by omega) MU).trans iw.out);have Ki:Hid (Boxed wr (X+1+1+1) 37 (.int .i64 0)):=jq ((gM.out.rd.keep (X+1+1+1) (by omega) Dj).trans Ft.out);have qk:Hid (wr.heap[D]?=some (.deferred (some []))):=jq ((gM.out.rd.keep D yY.out xr.out).trans zb.out);have bC:Hid (Below X w wr):=jq (wW.out.trans (gM.out.rd.below (by omega) (λk e=>by have:=fl.out k e;omega)));have o0:=KN.out.cell;have o1:=KN.out.frozen;have q0:=Ki.out.cell;have q1:=Ki.out.frozen;gi_wp2_with fail;obtain⟨W',hW'⟩:=aCQ ((wr.setCell ⟨X+1+1,0,none⟩ (.slice oA' i oc')).setCell ⟨X+1+1+1,0,none⟩ (.int .i64 0));have D8:W'.heap.size=wr.heap.size:=by rw[<-hW'];simp
       have DK:∀ k,k≠X+1+1->k≠X+1+1+1->W'.heap[k]?=wr.heap[k]?:=λk h1 h2=>by rw[<-hW'];exact (wQ _ _ _ k h2).trans (wQ _ _ _ k h1)
       have GU:Below X w W':=by rw[<-hW'];exact ((bC.out.setCell (p:=⟨X+1+1,0,none⟩) (by dsimp only;omega) _).setCell (p:=⟨X+1+1+1,0,none⟩) (by dsimp only;omega) _)
       have tA:W'.os=wr.os/\W'.tape=wr.tape/\W'.output=wr.output:=by rw[<-hW'];simp[World.setCell]
       have G3:W'.heap[D]?=some (.deferred (some [])):=(DK D (Ne.symm Dw) (Ne.symm Di)).trans qk.out;have e0:W'.cell? ⟨X+1+1,0,none⟩=some (.slice oA' i oc'):=by rw[<-hW'];simp[go_sem,o0]
       have e1:W'.cell? ⟨X+1+1+1,0,none⟩=some (.int .i64 0):=by rw[<-hW'];simp[go_sem,q0]
       have f0:=(iQ (w:=W') (w':=W'.putObj D (.deferred none)) (a:=⟨X+1+1,0,none⟩) (zQ Dw)).trans e0;have f1:=(iQ (w:=W') (w':=W'.putObj D (.deferred none)) (a:=⟨X+1+1+1,0,none⟩) (zQ Di)).trans e1;rw[hW'];have WM:∀ k,k≠X+1+1->k≠X+1+1+1->k≠D->(W'.putObj D (.deferred none)).heap[k]?=wr.heap[k]?:=λk h1 h2 h3=>(zQ h3).trans (DK k h1 h2);have Ye:(W'.putObj D (.deferred none)).heap.size=wr.heap.size:=by simpa using D8
       have KS:=jq (gM.out.calm (T:=λk=>k=X+1+1\/k=X+1+1+1\/k=D) (λk e=>by
        rcases e with rfl | rfl | rfl
        ·exact⟨by omega,MU⟩
        ·exact⟨by omega,Dj⟩
        ·exact⟨yY.out,xr.out⟩) (w':=W'.putObj D (.deferred none)) tA Ye (λk hk=>WM k (λe=>hk (.inl e)) (λe=>hk (.inr (.inl e))) (λe=>hk (.inr (.inr e)))))
       refine nu G3 (v:=.tuple #[.slice oA' i oc',.int .i64 0]) (by simp[results,results61,go_sem,f0,f1]) ⟨.inr ⟨bl.out,.inr ⟨(by have h1:=Ko.out;simpa using h1),_,rfl,?_⟩⟩,me GU (by omega) _⟩;intro Mq Vw;have tM:=xo.out;have NO:us'.map (λx=>(x.1,x.2.1))=(Np.eO PS).map λx=>(x.1,Np.gX x.2):=by rw[FK.out,Zq KE.out]
       have Xh:(us'.map λx=>(⟨z.data.toList,x.1,x.2.1,[]⟩:Np.Held))=Np.pub h.copies z.data.toList:=by
        have h1:=Qd (List.map λx:Np.Signed×List Np.Span=>(⟨z.data.toList,x.1,x.2,[]⟩:Np.Held)) NO;rw[List.map_map,List.map_map] at h1;refine Eq.trans h1 ?_;rw[<-nc.out];exact (Np.Y9 Np.gX _ _).symm
       rw[<-Xh];exact KS.out.slr hz (by omega) (λx hx=>by
        have h1:(x.1,x.2.1)∈us'.map (λx=>(x.1,x.2.1)):=List.mem_map.2 ⟨x,hx,rfl⟩;rw[NO] at h1;obtain⟨y,hy,he⟩:=List.mem_map.1 h1;simp only[Prod.mk.injEq] at he;rw[<-he.2];obtain⟨j,hj⟩:=List.mem_iff_getElem?.1 hy;have h2:=Jh y.2;have h3:=Np.JJ PS y.1;rw[<-Np.O5 hj] at h3;have h4:=rk.out;rw[nc.out] at h4;omega) (λk hk=>by
        have h1:=Vw k hk;refine⟨gM.out.ex k (by omega) (λe=>by have:=fl.out k e;omega),λe=>by have:=(KS.out.lt e).1;omega⟩)
   case round=>
    rintro l0 pre ⟨⟨xh,xf,xt,xs,xA,xn,xc⟩,cc⟩ S W br hI fq;have CI:Hid ((⟨⟨xh,xf,xt,xs,xA,xn,xc⟩,cc⟩:CV×Np.Copy)∈L):=jq ((List.mem_filter.1 (br.subset (by simp:(⟨⟨xh,xf,xt,xs,xA,xn,xc⟩,cc⟩:CV×Np.Copy)∈_))).1);have mg:=ZY hI ((vQ _ W).alloc (bQ _) (.cells #[.int .i64 xh,.int .i64 xf,.int .i64 xt,.string xs,.slice xA xn xc] 46));have rt:w6.heap.size<=W.heap.size:=by obtain⟨_,_,_,_,_,_,_,_,_,_,_,_,_,_,_,_,_,hB⟩:=hI;exact hB.size
    have nf:=jq br;clear hI br;gi_wp2;refine⟨λk=>S k\/k=W.heap.size,(RdStep.refl S W).alloc _,λk e=>e.imp id (λh=>by omega),λk e=>by rcases e with e | e;have:=fq k e;simp;omega;simp;omega,?_⟩;intro l W₂ ay;have Vs:=Pr w6 Bh (Bh+1) (Bh+1+1) z pre S _ W₂ mg (ay.weaken (bQ _) (λk e=>.inl e));have ku:=ay.size;simp only[World.size_alloc] at ku;have fO:W₂.heap[W.heap.size]?=some (.cells #[.int .i64 xh,.int .i64 xf,.int .i64 xt,.string xs,.slice xA xn xc] 46):=(ay.keep W.heap.size (by simp) (.inr (.inr rfl))).trans (heap_alloc_new _ _);obtain⟨us,ov,M,Dq,AD,Dp,hown,AC,AB,mbo,mbt,mbm,tc,rA,ta,xR,yc,aI⟩:=Vs;have SI:Hid (∀ k,S k->k<W.heap.size):=jq fq;have fl:=jq AC;have zr:=jq (And.intro Dq (And.intro AD Dp));have Cg:Hid (CVOf w6 X ⟨xh,xf,xt,xs,xA,xn,xc⟩ cc):=jq (po.out _ CI.out);have pz:Below X w6 W₂:=aI.below (by omega) (λk e=>by omega);have Re:=jq (du.out.trans pz);have sO:=jq aI;obtain⟨sets,yk⟩:=aCQ cc.zone.sets;have nh:=jq yk;have SF:Hid (SlR bP 5 W₂ X (.slice xA xn xc) sets):=jq (by have:=(Cg.out.keep pz).sets;rw[yk] at this;exact this);have Ov:sets.length=xn:=by rw[<-yk];exact Cg.out.len
    have Lm:=jq Ov;have td:cc∈h.copies:=by rw[<-mY.out];exact List.mem_map.2 ⟨_,CI.out,rfl⟩
    have kD:=jq td;have aOJ:xn<=20000:=by rw[<-Ov,<-yk];exact rc.out.2 cc td
    have MS:Np.jW cc=⟨xf,xt⟩:=by
     have h1:=Cg.out.frm;have h2:=Cg.out.til;dsimp only at h1 h2;unfold Np.jW;rw[h1,h2]
    obtain⟨PP,G8⟩:=aCQ ((pre.map (·.2)).flatMap Np.oU);rw[G8] at yc;have nU:Hid (((pre ++ [((⟨xh,xf,xt,xs,xA,xn,xc⟩,cc):CV×Np.Copy)]).map (·.2)).flatMap Np.oU=PP++sets.map λs=>((⟨xf,xt⟩:Np.Span),s)):=jq (by
     rw[List.map_append,List.flatMap_append,G8];simp[Np.oU,MS,yk])
    have lE:Hid (∃ c,Np.dR h.copies z.data.toList=(PP++sets.map λs=>((⟨xf,xt⟩:Np.Span),s))++c):=jq (by
     obtain⟨c,hc⟩:=ZL nf.out;rw[nU.out,Ma po.out,mY.out] at hc;exact⟨c,hc⟩)
    have KR:Hid (∀ j,(psP PP ⟨xf,xt⟩ sets j).length<=5000):=jq (λj=>by
     obtain⟨c,hc⟩:=lE.out;have h1:=Qd List.length hc;have h2:=ZN PP ⟨xf,xt⟩ sets j;have h3:=rk.out;rw[List.length_append] at h1;omega)
    have Sn:Hid (∀ j,∀ p∈psP PP ⟨xf,xt⟩ sets j,Np.Plain47 p.2):=jq (λj p hp=>by
     obtain⟨c,hc⟩:=lE.out;have h1:p∈Np.dR h.copies z.data.toList:=by rw[hc];exact List.mem_append.2 (.inl (ZO hp))
     obtain⟨d,hd,_,hs,_⟩:=Np.wn.1 h1;exact Np.J0 (HV.out.each d hd).zone hs (Gd.out d hd _ hs))
    obtain⟨w7,gV⟩:=aCQ (W₂.setCell ⟨Bh+1,0,none⟩ (.bool true));have t7:Turned (Bh+1) W₂ w7:=by rw[<-gV];exact⟨rfl,rfl,rfl,by simp[World.setCell],λi hi=>wQ _ _ _ _ hi⟩
    have nN:w7.heap.size=W₂.heap.size:=t7.size;have VZ:=rA.cell;have V0:=rA.frozen;have Kd:Hid (Boxed w7 (Bh+1) 4 (.bool true)):=jq (by rw[<-gV];exact rA.set _);have Kb:Hid (Boxed w7 Bh 52 ov):=jq ((t7.block Bh (by omega)).trans tc);have J9:Hid (dj (Bh+1+1) (Np.nP (us.map (·.1))) w7):=jq (ta.stays (t7.block _ (by omega)));have mU:=jq fO;have Nb:=(t7.block W.heap.size (by omega)).trans fO;have Kt:Hid (PubK S W₂ w6.heap.size z (λk=>M k/\k<W₂.heap.size) us ov w7):=jq ((PubK.start xR AB hown).touch ⟨mbt,rA.lt⟩ (.inl AD) (λe=>by have:=(xR.lt e).1;omega) t7);have V5:w7.cell? ⟨W.heap.size,4,none⟩=some (.slice xA xn xc):=by simp[World.cell?,Nb]
    have Lr:Hid (W₂.heap[X+1]?=w6.heap[X+1]?/\W₂.heap[Bh+1+1+1]?=w6.heap[Bh+1+1+1]?):=jq ⟨aI.keep _ (by omega) (by omega),aI.keep _ (by omega) (by omega)⟩;have KD:Hid ((M Bh/\Bh<W₂.heap.size)/\(M (Bh+1+1)/\Bh+1+1<W₂.heap.size)/\(M (Bh+1)/\Bh+1<W₂.heap.size)):=jq ⟨⟨mbo,by omega⟩,⟨mbm,by omega⟩,⟨mbt,by omega⟩⟩;have KF:=jq yc;have hXW:X+4<=Bh:=by omega
    have Am:Bh+6<=W.heap.size:=by omega
    have Ha:W.heap.size<W₂.heap.size:=by omega
    have M8:¬ S W.heap.size:=λe=>by have:=fq _ e;omega
    have Ch:=jq M8;clear G8 yk tc rA ta xR yc aI t7 fO Nb mg ay fq AC AB mbo mbt mbm hown Dq AD Dp pz MS td M8;gi_wp2_with fail;clear gV V5 VZ V0;obtain⟨ih,WB,Wv,Ww,Wx⟩:=info_parts Tryz.infoHeldA;gi_loopw [33] (λi wr=>∃ (j:Nat) (us:List PT) (ov:Value) (M:Nat->Prop),j<=xn/\i = .int .i64 j/\W₂.heap.size<=wr.heap.size/\Hid (Boxed wr Bh 52 ov)/\Hid (Boxed wr (Bh+1) 4 (.bool true))/\Hid (dj (Bh+1+1) (Np.nP (us.map (·.1))) wr)/\Hid (PubK S W₂ w6.heap.size z M us ov wr)/\Hid (M Bh/\M (Bh+1+1)/\M (Bh+1))/\Hid (us.map (λx=>(x.1,x.2.1))=Np.eO (psP PP ⟨xf,xt⟩ sets j))) (λi _=>xn - (intOf i).toNat)
    case atStart=>exact⟨0,us,ov,_,jQ _,rfl,by omega,Kb,Kd,J9,Kt,KD,jq (by rw[ZQ];exact KF.out)⟩
    case round=>
     clear Kb Kd J9 Kt KD KF nN;obtain⟨j,us,ov,M,hj,rfl,Yh,wT,Kf,Ka,gM,g9,lC⟩:=hrel;have bC:Hid (Below X w wr):=jq (Re.out.trans (gM.out.rd.below (by omega) (λk e=>by have:=fl.out k e;omega)));have Cn:Hid (∀ k,k<W₂.heap.size->¬ S k->wr.heap[k]?=W₂.heap[k]?):=jq gM.out.rd.keep;by_cases aa:j<xn
     ·obtain⟨x,ac⟩:∃ x,sets[j]?=some x:=⟨_,aQ (by rw[Lm.out];exact aa)⟩;obtain⟨b',o,c',ss,dv,sv,hA,hb',_,hs,Oe,aO,bh,e0,e1,e2,e3,e4⟩:=fR (SF.out.keep bH (gM.out.rd.below (n:=X) (by omega) (λk e=>by have:=fl.out k e;omega))) ac;simp only[Value.slice.injEq] at hA;obtain⟨rfl,-,rfl⟩:=hA;have nM:x∈cc.zone.sets:=by rw[nh.out];exact gQ ac
      have za:Hid (KeyS x):=jq (Q5 (HV.out.each cc kD.out).zone nM (Gd.out cc kD.out x nM));have KV:Hid (Np.Plain47 x):=jq (Np.J0 (HV.out.each cc kD.out).zone nM (Gd.out cc kD.out x nM));have bO:Hid (psP PP ⟨xf,xt⟩ sets (j+1)=psP PP ⟨xf,xt⟩ sets j ++ [(⟨xf,xt⟩,x)]):=jq (ZP ac);have fJ:=jq (And.intro hs Oe);have kL:Hid ((⟨⟨ss.data.toList,x.set.type,x.set.life,x.set.data⟩,x.sigs⟩:Np.Signed)=x):=jq (by rw[hs]);have j5:Hid (x.set.data.length<=1000/\x.sigs.length<=1000):=jq (by have h1:=za.out.few;have h2:=za.out.fewS;omega);have jy:Hid (∀ W',Below X wr W'->SlR bK 3 W' W'.heap.size dv x.set.data):=jq (λW' hb=>(aO.keep cM hb).more dt (by have:=hb.size;omega));have l6:Hid (∀ W',Below X wr W'->SlR dl 6 W' W'.heap.size sv x.sigs):=jq (λW' hb=>(bh.keep dD hb).more eu (by have:=hb.size;omega));obtain⟨dA,dc,rfl,_,_⟩:=ak aO;obtain⟨gA,gc,rfl,_,_⟩:=ak bh;obtain⟨dn,oK⟩:=aCQ x.set.data.length;obtain⟨gn,gz⟩:=aCQ x.sigs.length;rw[oK] at e3 jy;rw[gz] at e4 l6;have lv:=jq oK;have RP:=jq gz;clear ac hs Oe aO bh oK gz nM;have bV:(0:Int)<=(j:Int):=by omega
      have bT:(j:Int)<(xn:Int):=by omega
      obtain⟨w8,eZ⟩:=aCQ (wr.alloc (.cells #[.string ss,.int .i64 x.set.type,.int .i64 x.set.life,.slice dA dn dc,.slice gA gn gc] 42));have qL:w8.heap.size=wr.heap.size+1:=by rw[<-eZ];simp
      have dS:Below wr.heap.size wr w8:=by rw[<-eZ];exact (vQ _ _).alloc (bQ _) _
      have p0:w8.cell? ⟨wr.heap.size,0,none⟩=some (.string ss):=by rw[<-eZ];simp[go_sem]
      have p1:w8.cell? ⟨wr.heap.size,1,none⟩=some (.int .i64 x.set.type):=by rw[<-eZ];simp[go_sem]
      have p2:w8.cell? ⟨wr.heap.size,2,none⟩=some (.int .i64 x.set.life):=by rw[<-eZ];simp[go_sem]
      have p3:w8.cell? ⟨wr.heap.size,3,none⟩=some (.slice dA dn dc):=by rw[<-eZ];simp[go_sem]
      have p4:w8.cell? ⟨wr.heap.size,4,none⟩=some (.slice gA gn gc):=by rw[<-eZ];simp[go_sem]
      have ew:=jq dS;clear dS;gi_wp2_with fail;refine⟨trivial,rfl,?_⟩;refine (CallsIn.inRound l (callsIn_wide.2 (aqY ss x.set.type x.set.life _ _ x.set.data x.sigs w8 (kH.out.keepAt (bC.out.trans (ew.out.aDQ)) pm.out) (by rw[kL.out];exact za.out) (jy.out w8 (ew.out.aDQ)) (l6.out w8 (ew.out.aDQ))))).mono ?_;rw[kL.out];rintro e w9 ⟨rfl,fN⟩;clear eZ e0 e1 e2 e3 e4;have tN:=fN.size;have eS:Hid (Below wr.heap.size wr w9):=aBY ew fN;replace p0:=aBX fN p0;replace p1:=aBX fN p1;replace p2:=aBX fN p2;replace p3:=aBX fN p3;replace p4:=aBX fN p4;have Cd:=jq (aEX wT.out eS.out);have Ke:=jq (aEX Kf.out eS.out);have Fb:Hid (dj (Bh+1+1) (Np.nP (us.map (·.1))) w9):=jq (Ka.out.keep eS.out (by omega));have rg:=jq (gM.out.keep eS.out);have DD:=(eS.out.block _ (by omega)).trans ((Cn.out _ (by omega) Ch.out).trans mU.out);have Ng:w9.heap[X+1]?=w6.heap[X+1]?:=(eS.out.block _ (by omega)).trans ((Cn.out _ (by omega) (λe=>by have:=fl.out _ e;omega)).trans Lr.out.1);have Nd:w9.heap[Bh+1+1+1]?=w6.heap[Bh+1+1+1]?:=(eS.out.block _ (by omega)).trans ((Cn.out _ (by omega) (λe=>by have:=fl.out _ e;omega)).trans Lr.out.2);have bx:w9.cell? ⟨Bh+1+1+1,0,none⟩=some (.map (some (Bh+1+1))):=(iQ Nd).trans Rt.out.cell;have kz:w9.cell? ⟨X+1,0,none⟩=some (.string z):=(iQ Ng).trans sK.out;have iV:=akX (P:=prog) w9 213 9 3 underlying213 underlying9 (Bh+1+1) _ Fb.out (Np.de x) (.int .i64 0) (by kernel_rfl);have CB:Hid (∀ y∈us.map (·.1),Np.Plain47 y):=jq (λy hy=>by
       rw[Ei lC.out] at hy;obtain⟨p,hp,rfl⟩:=List.mem_map.1 (Np.tS.1 hy);exact Sn.out j p hp)
      have zz:Hid ((us.map (·.1)).Nodup):=jq (by rw[Ei lC.out];exact Np.yq _);have Ld:Hid (us.length<=5000):=jq (by have h1:=O4 lC.out;have h2:=KR.out j;omega);clear fN Ng Nd;obtain⟨key,mu⟩:=aCQ (Np.de x);rw[mu] at iV |-;by_cases hin:x∈us.map (·.1)
      ·obtain⟨q,hq⟩:=List.mem_iff_getElem?.1 hin;have dN:(Np.nP (us.map (·.1))).lookup key=some (.int .i64 ((q:Nat):Int)):=by rw[<-mu];exact Np.YC KV.out CB.out zz.out hq
       rw[dN] at iV;simp only[Option.getD_some,Option.isSome_some] at iV;rw[Ei lC.out] at hq;obtain⟨fv,hy⟩:=Zd lC.out hq;obtain⟨tl,iY⟩:=aCQ (Np.gl (psP PP ⟨xf,xt⟩ sets j) x);have kE:Hid (∀ v',(us.set q (x,tl ++ [⟨xf,xt⟩],v')).map (λx=>(x.1,x.2.1))=Np.eO (psP PP ⟨xf,xt⟩ sets (j+1))):=jq (λv'=>by rw[bO.out,<-iY];exact Zf lC.out hq _ v');have Gg:Hid (tl.length<=5000):=jq (by rw[<-iY];have h1:=QA (psP PP ⟨xf,xt⟩ sets j) x;have h2:=KR.out j;omega);rw[iY] at hy;clear hin dN hq iY mu;obtain⟨n,hn⟩:=aCQ us.length;have aNQ:q<n:=by rw[<-hn];exact (cQ.1 hy).1
       obtain⟨g,cap,rfl,dU,Id,vt⟩:=rg.out.rows.row.formSome hn (by omega);have gG:=jq hn;have It:n<=5000:=by rw[<-hn];exact Ld.out
       have tz:aN w6.heap.size w9 fv tl:=rg.out.rows.fresh _ (gQ hy);obtain⟨fA,fc,rfl⟩:=aN.form tz;obtain⟨fn,km⟩:=aCQ tl.length;rw[km] at hy tz;have uo:=jq km;have HY:=jq hy;have l7:Hid (∀ k,(Value.slice fA fn fc).ownBlock=some k->w6.heap.size<=k/\k≠g/\k≠W.heap.size):=jq (λk e=>by
        have h1:=World.ownsRow.lt tz k e;have h2:=(rg.out.rows.off _ (gQ hy) k e).1;have h3:=rg.out.own k (.inr ⟨_,gQ hy,e⟩);exact⟨h1.1,λe=>h2 (by rw[e];rfl),λe2=>by
         subst e2;rcases h3 with h3 | h3
         ·exact Ch.out h3
         ·omega⟩)
       have b6:=Cd.out.cell;have f6:w9.cell? ⟨g,q * 8+6,none⟩=some (.slice fA fn fc):=H7 rg.out.rows.row hy;have c1:w9.cell? ⟨W.heap.size,1,none⟩=some (.int .i64 xf):=by simp[World.cell?,DD]
       have c2:w9.cell? ⟨W.heap.size,2,none⟩=some (.int .i64 xt):=by simp[World.cell?,DD]
       have oP:(0:Int)<=(q:Int):=by omega
       have kr:(q:Int)<(n:Int):=by omega
       have AZ:decide ((20000:Int)<(n:Int))=false:=aDJ;have Wu:decide (20000<n)=false:=aDJ;have re:=rg;have Cc:=Cd;have Fd:=Ke;have Cb:=Fb;have uw:=g9;have Wt:W.heap.size<w9.heap.size:=by omega
       clear hn hy tz km DD vt;gi_wp2_with fail;refine B5 λa0 cJ=>?_;have kC:=jq cJ;have ju:=jq (show a0.eval (.tmp 6) = .pointer (some ⟨Bh,0,none⟩) by rw[cJ];rfl);have p8:=jq (show a0.eval (.tmp 13) = .int .i64 (q:Nat) by rw[cJ];rfl);have ue:=jq (show a0.eval (.tmp 9) = .pointer (some ⟨W.heap.size,0,none⟩) by rw[cJ];rfl);have HM:=jq (show a0.tmps.size=101 by rw[cJ];rfl);clear cJ;refine EP (by kernel_rfl) (by kernel_rfl) (by rintro⟨_,_,h⟩;exact h) ?_;refine fS 12 (D:=[0,1,2,3,4,5,6,7,8,9,10,11,14,15]) (val:=gj g n cap q fA fn fc W.heap.size xf xt undef undef) oV qQ (vp HM.out) (by kernel_rfl) ?_ ?_
       ·intro i aG bn o ho a' hb aF;have k6':=aEJ hb ju.out;have k13':=aEJ hb p8.out;have k9':=aEJ hb ue.out;simp[Act.eval] at k6' k13' k9'
        repeat' (rcases aG with _ | ⟨_,aG⟩)
        all_goals first
         | (exfalso;simp at bn;done)
         | (cases ho
            try simp[Act.eval,Region.binds,gj,jo] at aF
            refine fw (by simp[Region.wanted]) ?_;simp[Oper.quietAt,Oper.quietUpon,execOp,go_sem,gj,k6',k13',k9',b6,f6,c1,c2,oP,kr,aF])
       ·intro f listed a' hH hr hv;have av11:=hv 11;simp[Act.eval,gj,jo] at av11;simp only[wpOp];simp[Region.wanted];refine .inl ?_;simp[Oper.wp,execOp,go_sem,av11];obtain⟨wA,pU⟩:=aCY ((w9.alloc (.cells #[.int .i64 xf,.int .i64 xt] 110)).drew);rw[<-pU];have iE:Below w9.heap.size w9 wA:=by rw[pU];exact ((vQ _ _).alloc (bQ _) _).drew
        have Oz:wA.heap.size=w9.heap.size+1:=by rw[pU];simp[World.drew]
        have yW:Hid (wA.cell? ⟨w9.heap.size,0,none⟩=some (.int .i64 xf)/\wA.cell? ⟨w9.heap.size,1,none⟩=some (.int .i64 xt)):=jq (by rw[pU];exact⟨by simp[go_sem],by simp[go_sem]⟩);replace b6:=aBX iE b6;replace f6:=aBX iE f6;replace c1:=aBX iE c1;replace c2:=aBX iE c2;have ur:=jq (re.out.keep iE);have eT:=jq iE;clear pU iE;refine fS 13 (D:=[0,1,2,3,4,5,6,7,8,9,10,11,14,15,12]) (val:=gj g n cap q fA fn fc W.heap.size xf xt (.slice (some ⟨w9.heap.size,0,none⟩) 1 1) undef) oV qQ (hH.next oV qQ hr) (by kernel_rfl) ?_ ?_
        ·intro i aG bn o ho a' hb aF;have k6':=aEJ hb ju.out;have k13':=aEJ hb p8.out;have k9':=aEJ hb ue.out;simp[Act.eval] at k6' k13' k9'
         repeat' (rcases aG with _ | ⟨_,aG⟩)
         all_goals first
          | (exfalso;simp at bn;done)
          | (cases ho
             try simp[Act.eval,Region.binds,gj,jo] at aF
             refine fw (by simp[Region.wanted]) ?_;simp[Oper.quietAt,Oper.quietUpon,execOp,go_sem,gj,k6',k13',k9',b6,f6,c1,c2,oP,kr,aF])
        ·intro f listed a' hH hr hv;have av6:=hv 6;have av12:=hv 12;simp[gj,jo] at av6 av12;simp only[wpOp];simp[Region.wanted];refine .inl ?_;refine QV wA (.tmp 68) (.tmp 74) rfl w6.heap.size (.slice fA fn fc) tl av6 (ur.out.rows.fresh _ (gQ HY.out)) w9.heap.size xf xt av12 yW.out.1 yW.out.2 (by have:=Gg.out;omega) (by omega) ?_;intro v8 wB bJ bw eX;obtain⟨eA,ec,rfl⟩:=Ph bJ (n:=(fn+1)) (by rw[List.length_append,uo.out];rfl);have Yb:=bw.size;have ffA:wA.frozen? ⟨g,q * 8+6,none⟩=false:=ur.out.rows.row.frozenAt gG.out _;have rK:wB.heap[Bh]?=wA.heap[Bh]?:=bw.block Bh (by omega) (λe=>by have:=(l7.out Bh e.symm).1;omega);have vC:wB.heap[g]?=wA.heap[g]?:=bw.block g (by omega) (λe=>(l7.out g e.symm).2.1 rfl);have vB:wB.heap[W.heap.size]?=wA.heap[W.heap.size]?:=bw.block W.heap.size (by omega) (λe=>(l7.out _ e.symm).2.2 rfl);replace b6:=(iQ (a:=⟨Bh,0,none⟩) rK).trans b6;replace f6:=(iQ (a:=⟨g,q * 8+6,none⟩) vC).trans f6;replace c1:=(iQ (a:=⟨W.heap.size,1,none⟩) vB).trans c1;replace c2:=(iQ (a:=⟨W.heap.size,2,none⟩) vB).trans c2;have ff:=(World.frozen?_of_block (a:=⟨g,q * 8+6,none⟩) vC).trans ffA;have H8:=jq (And.intro bJ (And.intro bw eX));clear bJ bw eX rK vC vB ffA;refine fS 16 (D:=[0,1,2,3,4,5,6,7,8,9,10,11,14,15,12,13]) (val:=gj g n cap q fA fn fc W.heap.size xf xt (.slice (some ⟨w9.heap.size,0,none⟩) 1 1) (.slice eA (fn+1) ec)) oV qQ (hH.next oV qQ hr) (by kernel_rfl) ?_ ?_
         ·intro i aG bn o ho a' hb aF;have k6':=aEJ hb ju.out;have k13':=aEJ hb p8.out;have k9':=aEJ hb ue.out;simp[Act.eval] at k6' k13' k9'
          repeat' (rcases aG with _ | ⟨_,aG⟩)
          all_goals first
           | (exfalso;simp at bn;done)
           | (cases ho
              try simp[Act.eval,Region.binds,gj,jo] at aF
              refine fw (by simp[Region.wanted]) ?_;simp[Oper.quietAt,Oper.quietUpon,execOp,go_sem,gj,k6',k13',k9',b6,f6,c1,c2,oP,kr,aF])
         ·intro f listed a' hH hr hv;have av13:=hv 13;have av15:=hv 15;simp[Act.eval,gj,jo] at av13 av15;simp only[wpOp];simp[Region.wanted];refine .inl ?_;simp[Oper.wp,execOp,go_sem,av13,av15,f6,ff];refine sr hH hr HM.out oV (by kernel_rfl) λfH=>?_
          ·rw[fH,kC.out];simp[kA,Act.put,gj,jo];clear hv hH fH;clear b6 f6 c1 c2 ff;obtain⟨W',hW'⟩:=aCQ (wB.setCell ⟨g,q * 8+6,none⟩ (.slice eA (fn+1) ec));have Fv:Hid (PubK S W₂ w6.heap.size z (λk=>M k\/(Value.slice eA (fn+1) ec).ownBlock=some k) (us.set q (x,tl ++ [⟨xf,xt⟩],.slice eA (fn+1) ec)) (.slice (some ⟨g,0,none⟩) n cap) W'):=jq (by rw[<-hW'];exact ur.out.changed gG.out HY.out H8.out.2.1 H8.out.1 H8.out.2.2);have iK:Hid (Below w6.heap.size w9 W'):=jq (by rw[<-hW'];exact ((eT.out.aDQ).trans ((vQ _ _).grown H8.out.2.1 (by omega) (λk e=>(l7.out k e).1))).setCell (by dsimp only;omega) _);have F9:Hid ((us.set q (x,tl ++ [(⟨xf,xt⟩:Np.Span)],Value.slice eA (fn+1) ec)).map (·.1)=us.map (·.1)):=jq (P6 HY.out rfl);rw[hW'];have D6:W'.heap.size=wB.heap.size:=by rw[<-hW'];simp[World.setCell]
           gi_wp2_with fail;go_roundw
           case measure=>simp[intOf] <;> omega
           case rel=>exact⟨j+1,_,_,_,by omega,by go_num,by omega,jq (aEX Cc.out iK.out),jq (aEX Fd.out iK.out),jq (by rw[F9.out];exact Cb.out.keep iK.out (by omega)),Fv,jq ⟨.inl uw.out.1,.inl uw.out.2.1,.inl uw.out.2.2⟩,jq (kE.out _)⟩
      ·have dN:(Np.nP (us.map (·.1))).lookup key=none:=by rw[<-mu];exact Np.YA KV.out CB.out hin
       rw[dN] at iV;simp only[Option.getD_none,Option.isSome_none] at iV;have NT:x∉Np.dg ((psP PP ⟨xf,xt⟩ sets j).map (·.2)):=by rw[<-Ei lC.out];exact hin
       obtain⟨m,hm⟩:=aCQ us.length;have ob:=jq hm;have qm:Hid (m<=5000):=jq (by rw[<-hm];exact Ld.out);obtain⟨wU,qH,nH,cu⟩:=P1 (P:=prog) w9 213 9 3 underlying213 underlying9 (Bh+1+1) _ Fb.out key (.int .i64 ((m:Nat):Int)) dN;obtain⟨oA,oc,rfl⟩:=rg.out.rows.row.formN hm;have b6:=Cd.out.cell;have kE:Hid (∀ v',((us ++ [((x,[],.slice none 0 0):PT)]).set m (x,[] ++ [⟨xf,xt⟩],v')).map (λx=>(x.1,x.2.1))=Np.eO (psP PP ⟨xf,xt⟩ sets (j+1))):=jq (λv'=>by rw[bO.out,<-hm];exact Ze lC.out NT _ _ v');have D7:wU.heap.size=w9.heap.size:=cu.size;have Kw:=jq (rg.out.touch g9.out.2.1 (.inl zr.out.2.2) (λe=>by have:=(rg.out.rows.lt e).1;omega) cu);have sF:Hid (Below X wr wU):=jq ((eS.out.aDQ).trans (cu.below (by omega)));have wS:Hid (Boxed wU Bh 52 (.slice oA m oc)):=jq ((cu.block Bh (by omega)).trans Cd.out);have Rq:Hid (Boxed wU (Bh+1) 4 (.bool true)):=jq ((cu.block (Bh+1) (by omega)).trans Ke.out);have Rl:Hid (dj (Bh+1+1) (Np.nP ((us ++ [((x,[],.slice none 0 0):PT)]).map (·.1))) wU):=jq (by
        rw[List.map_append,List.map_cons,List.map_nil,Np.YB,mu,List.length_map,hm];exact nH)
       have RB:Hid (wU.heap[W.heap.size]?=W₂.heap[W.heap.size]?):=jq ((cu.block _ (by omega)).trans ((eS.out.block _ (by omega)).trans (Cn.out _ (by omega) Ch.out)));clear hin dN NT hm mu nH DD;gi_wp2_with fail;replace b6:=wS.out.cell;replace kz:=(iQ (a:=⟨X+1,0,none⟩) (cu.block (X+1) (by omega))).trans kz;replace p0:=(iQ (a:=⟨wr.heap.size,0,none⟩) (cu.block wr.heap.size (by omega))).trans p0;replace p1:=(iQ (a:=⟨wr.heap.size,1,none⟩) (cu.block wr.heap.size (by omega))).trans p1;replace p2:=(iQ (a:=⟨wr.heap.size,2,none⟩) (cu.block wr.heap.size (by omega))).trans p2;replace p3:=(iQ (a:=⟨wr.heap.size,3,none⟩) (cu.block wr.heap.size (by omega))).trans p3;replace p4:=(iQ (a:=⟨wr.heap.size,4,none⟩) (cu.block wr.heap.size (by omega))).trans p4;clear qH iV bx cu;refine B5 λa0 cJ=>?_;have kC:=jq cJ;have ju:=jq (show a0.eval (.tmp 6) = .pointer (some ⟨Bh,0,none⟩) by rw[cJ];rfl);have sC:=jq (show a0.eval (.tmp 3) = .pointer (some ⟨X+1,0,none⟩) by rw[cJ];rfl);have ud:=jq (show a0.eval (.tmp 11) = .pointer (some ⟨wr.heap.size,0,none⟩) by rw[cJ];rfl);have HM:=jq (show a0.tmps.size=101 by rw[cJ];rfl);clear cJ;refine EP (by kernel_rfl) (by kernel_rfl) (by rintro⟨_,_,h⟩;exact h) ?_;refine fS 3 (D:=[0,1,2]) (val:=ky oA m oc z ss x.set.type x.set.life dA dn dc gA gn gc undef undef undef) tV wv (vp HM.out) (by kernel_rfl) ?_ ?_
       ·intro i aG bn o ho a' hb aF;have k6':=aEJ hb ju.out;have k3':=aEJ hb sC.out;have k11':=aEJ hb ud.out;simp[Act.eval] at k6' k3' k11'
        repeat' (rcases aG with _ | ⟨_,aG⟩)
        all_goals first
         | (exfalso;simp at bn;done)
         | (cases ho
            try simp[Act.eval,Region.binds,ky,mN] at aF
            refine fw (by simp[Region.wanted]) ?_;simp[Oper.quietAt,Oper.quietUpon,execOp,go_sem,ky,k6',k3',k11',b6,kz,p0,p1,p2,p3,p4,yt,aF])
       ·intro f listed a' hH hr hv;have av2:=hv 2;simp[Act.eval,ky,mN] at av2;simp only[wpOp];simp[Region.wanted];refine .inl ?_;simp[Oper.wp,go_sem,av2];refine (T9 ss x.set.type x.set.life _ x.set.data _ x.sigs (by have:=j5.out.1;omega) (by have:=j5.out.2;omega) wU.drew (jy.out wU.drew sF.out.drew) (l6.out wU.drew sF.out.drew)).mono ?_;rintro e wC ⟨dv2,gv2,rfl,lK,AL⟩;have jG:Below wU.heap.size wU wC:=(vQ wU.heap.size wU).drew.trans AL;have Yc:=jG.size;replace p0:=aBX jG p0;replace p1:=aBX jG p1;replace p2:=aBX jG p2;replace p3:=aBX jG p3;replace p4:=aBX jG p4;replace b6:=aBX jG b6;replace kz:=aBX jG kz;have mV:Hid (J2 wU.heap.size wC dv2 gv2 x.set.data x.sigs):=jq lK;obtain⟨dA2,dc2,rfl,_,_⟩:=ak ((lK (λ_=>False) (λ_ e=>e.elim)).1);obtain⟨gA2,gc2,rfl,_,_⟩:=ak ((lK (λ_=>False) (λ_ e=>e.elim)).2);rw[lv.out,RP.out] at mV |-;have R0:=jq (Kw.out.keep jG);have Fa:=jq jG;clear lK jG AL;dsimp only;refine fS 5 (D:=[0,1,2,4,3]) (val:=ky oA m oc z ss x.set.type x.set.life dA dn dc gA gn gc (.agg #[.string ss,.int .i64 x.set.type,.int .i64 x.set.life,.slice dA2 dn dc2,.slice gA2 gn gc2]) undef undef) tV wv (hH.next tV wv hr) (by kernel_rfl) ?_ ?_
        ·intro i aG bn o ho a' hb aF;have k6':=aEJ hb ju.out;have k3':=aEJ hb sC.out;have k11':=aEJ hb ud.out;simp[Act.eval] at k6' k3' k11'
         repeat' (rcases aG with _ | ⟨_,aG⟩)
         all_goals first
          | (exfalso;simp at bn;done)
          | (cases ho
             try simp[Act.eval,Region.binds,ky,mN] at aF
             refine fw (by simp[Region.wanted]) ?_;simp[Oper.quietAt,Oper.quietUpon,execOp,go_sem,ky,k6',k3',k11',b6,kz,p0,p1,p2,p3,p4,yt,aF])
        ·intro f listed a' hH hr hv;have av4:=hv 4;simp[Act.eval,ky,mN] at av4;simp only[wpOp];simp[Region.wanted];refine .inl ?_;simp[yt] at av4;simp[Oper.wp,execOp,go_sem,av4];obtain⟨wX,D3⟩:=aCY (wC.alloc (.cells #[.string z,.string ss,.int .i64 x.set.type,.int .i64 x.set.life,.slice dA2 dn dc2,.slice gA2 gn gc2,.slice none 0 0,.slice none 0 0] 57));rw[<-D3];have kY:Below wC.heap.size wC wX:=by rw[D3];exact (vQ _ _).alloc (bQ _) _
         have M9:ek wX wC.heap.size 0 [.string z,.string ss,.int .i64 x.set.type,.int .i64 x.set.life,.slice dA2 dn dc2,.slice gA2 gn gc2,.slice none 0 0,.slice none 0 0]:=λi v hi=>by
          rw[D3]
          match i,hi with
          | 0,hi=>cases hi;simp[go_sem]
          | 1,hi=>cases hi;simp[go_sem]
          | 2,hi=>cases hi;simp[go_sem]
          | 3,hi=>cases hi;simp[go_sem]
          | 4,hi=>cases hi;simp[go_sem]
          | 5,hi=>cases hi;simp[go_sem]
          | 6,hi=>cases hi;simp[go_sem]
          | 7,hi=>cases hi;simp[go_sem]
          | i+8,hi=>simp at hi
         have Yf:=kY.size;replace p0:=aBX kY p0;replace p1:=aBX kY p1;replace p2:=aBX kY p2;replace p3:=aBX kY p3;replace p4:=aBX kY p4;replace b6:=aBX kY b6;replace kz:=aBX kY kz;have jc:=jq M9;have FB:=jq (R0.out.keep kY);have Fe:=jq kY;have ng:Hid (qq z (bA wX M) wX.heap.size [.string z,.string ss,.int .i64 x.set.type,.int .i64 x.set.life,.slice dA2 dn dc2,.slice gA2 gn gc2,.slice none 0 0,.slice none 0 0] (x,[],.slice none 0 0)):=jq (by
          have h1:=mV.out M (λk hk=>Kw.out.lt k hk);have h2:=(Leaves'.of_below (M:=M) kY).slr cM yu dt h1.1;have h3:=(Leaves'.of_below (M:=M) kY).slr dD yz eu h1.2;exact⟨ss,_,_,none,0,0,rfl,rfl,fJ.out.1,fJ.out.2,h2,h3⟩)
         clear D3 kY M9;refine fS 6 (D:=[0,1,2,4,3,5]) (val:=ky oA m oc z ss x.set.type x.set.life dA dn dc gA gn gc (.agg #[.string ss,.int .i64 x.set.type,.int .i64 x.set.life,.slice dA2 dn dc2,.slice gA2 gn gc2]) (.slice (some ⟨wC.heap.size,0,none⟩) 1 1) undef) tV wv (hH.next tV wv hr) (by kernel_rfl) ?_ ?_
         ·intro i aG bn o ho a' hb aF;have k6':=aEJ hb ju.out;have k3':=aEJ hb sC.out;have k11':=aEJ hb ud.out;simp[Act.eval] at k6' k3' k11'
          repeat' (rcases aG with _ | ⟨_,aG⟩)
          all_goals first
           | (exfalso;simp at bn;done)
           | (cases ho
              try simp[Act.eval,Region.binds,ky,mN] at aF
              refine fw (by simp[Region.wanted]) ?_;simp[Oper.quietAt,Oper.quietUpon,execOp,go_sem,ky,k6',k3',k11',b6,kz,p0,p1,p2,p3,p4,yt,aF])
         ·intro f listed a' hH hr hv;have av0:=hv 0;have av5:=hv 5;simp[ky,mN] at av0 av5;simp only[wpOp];simp[Region.wanted];refine .inl ?_;refine su (R:=qq z) (M:=M) wX (.tmp 52) (.tmp 57) 52 rfl w6.heap.size xY ih (.agg #[.string ⟨#[]⟩,.string ⟨#[]⟩,.int .i64 0,.int .i64 0,.slice none 0 0,.slice none 0 0,.slice none 0 0,.slice none 0 0]) 144 underlying52 WB Wv Ww Wx rfl (by decide) (.slice oA m oc) us av0 FB.out.rows.row (some ⟨wC.heap.size,0,none⟩) 1 [(x,[],.slice none 0 0)] av5 (PR rfl ng.out jc.out) (ajQ z) (by rw[ob.out];have:=qm.out;simp[maxLen];omega) (by rw[ob.out];have:=qm.out;simp;omega) (by omega) (Ez z) (EB z) (EA z) ?_;intro v8 wY bJ bw eX;obtain⟨A8,c8,rfl⟩:=bJ.formN (n:=m+1) (by rw[List.length_append,ob.out];rfl);have hzY:=bw.size;have DQ:∀ k,(Value.slice oA m oc).ownBlock=some k->w6.heap.size<=k/\k<wr.heap.size:=λk e=>by have h1:=gM.out.rows.row.lt k e;exact h1
          have x9:wY.heap[wr.heap.size]?=wX.heap[wr.heap.size]?:=bw.block _ (by omega) (λe=>by have:=(DQ _ e.symm).2;omega);have rK:wY.heap[Bh]?=wX.heap[Bh]?:=bw.block _ (by omega) (λe=>by have:=(DQ _ e.symm).1;omega);have ND:wY.heap[X+1]?=wX.heap[X+1]?:=bw.block _ (by omega) (λe=>by have:=(DQ _ e.symm).1;omega);replace p0:=(iQ (a:=⟨wr.heap.size,0,none⟩) x9).trans p0;replace p1:=(iQ (a:=⟨wr.heap.size,1,none⟩) x9).trans p1;replace p2:=(iQ (a:=⟨wr.heap.size,2,none⟩) x9).trans p2;replace p3:=(iQ (a:=⟨wr.heap.size,3,none⟩) x9).trans p3;replace p4:=(iQ (a:=⟨wr.heap.size,4,none⟩) x9).trans p4;replace b6:=(iQ (a:=⟨Bh,0,none⟩) rK).trans b6;replace kz:=(iQ (a:=⟨X+1,0,none⟩) ND).trans kz;have Kc:Hid (Boxed wY Bh 52 (.slice oA m oc)):=jq (rK.trans ((Fe.out.block Bh (by omega)).trans ((Fa.out.block Bh (by omega)).trans wS.out)));have RC:Hid (wY.heap[W.heap.size]?=wU.heap[W.heap.size]?):=jq ((bw.block _ (by omega) (λe=>by
           rcases FB.out.own _ (.inl e.symm) with h1 | h1
           ·exact Ch.out h1
           ·omega)).trans ((Fe.out.block _ (by omega)).trans (Fa.out.block _ (by omega))))
          have Rx:Hid (Below w6.heap.size wX wY):=jq ((vQ _ _).grown bw (by omega) (λk e=>(DQ k e).1));have iv:=jq (FB.out.push bJ bw eX);clear bJ bw eX x9 rK ND;refine fS 7 (D:=[0,1,2,4,3,5,6]) (val:=ky oA m oc z ss x.set.type x.set.life dA dn dc gA gn gc (.agg #[.string ss,.int .i64 x.set.type,.int .i64 x.set.life,.slice dA2 dn dc2,.slice gA2 gn gc2]) (.slice (some ⟨wC.heap.size,0,none⟩) 1 1) (.slice A8 (m+1) c8)) tV wv (hH.next tV wv hr) (by kernel_rfl) ?_ ?_
          ·intro i aG bn o ho a' hb aF;have k6':=aEJ hb ju.out;have k3':=aEJ hb sC.out;have k11':=aEJ hb ud.out;simp[Act.eval] at k6' k3' k11'
           repeat' (rcases aG with _ | ⟨_,aG⟩)
           all_goals first
            | (exfalso;simp at bn;done)
            | (cases ho
               try simp[Act.eval,Region.binds,ky,mN] at aF
               refine fw (by simp[Region.wanted]) ?_;simp[Oper.quietAt,Oper.quietUpon,execOp,go_sem,ky,k6',k3',k11',b6,kz,p0,p1,p2,p3,p4,yt,aF])
          ·intro f listed a' hH hr hv;have av6:=hv 6;simp[Act.eval,ky,mN] at av6;simp only[wpOp];simp[Region.wanted];refine .inl ?_;have bf:=Kc.out.frozen;have k6':=(aT hH.good.base (j:=6) (by decide) (by decide)).trans ju.out;simp[Act.eval] at k6';simp[Oper.wp,execOp,go_sem,av6,b6,bf,k6'];refine sr hH hr HM.out tV (by kernel_rfl) λfH=>?_
           ·rw[fH,kC.out];simp[kA,Act.put,ky,mN];clear hv hH fH;clear p0 p1 p2 p3 p4 b6 kz bf;obtain⟨wZ,D4⟩:=aCQ (wY.setCell ⟨Bh,0,none⟩ (.slice A8 (m+1) c8));have tZ:Turned Bh wY wZ:=by rw[<-D4];exact⟨rfl,rfl,rfl,by simp[World.setCell],λi hi=>wQ _ _ _ _ hi⟩
            have hzZ:wZ.heap.size=wY.heap.size:=tZ.size;have Cc:Hid (Boxed wZ Bh 52 (.slice A8 (m+1) c8)):=jq (by rw[<-D4];exact Kc.out.set _);have GV:Below w6.heap.size wU wY:=((Fa.out.aDQ).trans (Fe.out.aDQ)).trans Rx.out;have Fd:Hid (Boxed wZ (Bh+1) 4 (.bool true)):=jq ((tZ.block (Bh+1) (by omega)).trans (aEX Rq.out GV));have Cb:Hid (dj (Bh+1+1) (Np.nP ((us ++ [((x,[],.slice none 0 0):PT)]).map (·.1))) wZ):=jq ((Rl.out.keep GV (by omega)).stays (tZ.block _ (by omega)));obtain⟨u1,tI⟩:=aCQ (us ++ [((x,[],.slice none 0 0):PT)]);obtain⟨M1,G5⟩:∃ M1:Nat->Prop,(λk=>M k\/(Value.slice A8 (m+1) c8).ownBlock=some k)=M1:=⟨_,rfl⟩;have re:Hid (PubK S W₂ w6.heap.size z M1 u1 (.slice A8 (m+1) c8) wZ):=jq (by rw[<-tI,<-G5];exact iv.out.touch (.inl g9.out.1) (.inl zr.out.1) (λe=>by have:=(iv.out.rows.lt e).1;omega) tZ);have uw:Hid (M1 Bh/\M1 (Bh+1+1)/\M1 (Bh+1)):=jq (by rw[<-G5];exact⟨.inl g9.out.1,.inl g9.out.2.1,.inl g9.out.2.2⟩);rw[tI] at Cb kE;have HY:Hid (u1[m]?=some (x,[],.slice none 0 0)):=jq (by rw[<-tI,<-ob.out];simp);have gG:Hid (u1.length=m+1):=jq (by rw[<-tI,<-ob.out];simp);have uo:Hid (([]:List Np.Span).length=0):=jq rfl;have Gg:Hid (([]:List Np.Span).length<=5000):=jq (by simp);obtain⟨g,cap,Nr,dU,Id,vt⟩:=re.out.rows.row.formSome gG.out (by omega);simp only[Value.slice.injEq] at Nr;obtain⟨rfl,-,rfl⟩:=Nr;have l7:Hid (∀ k,(Value.slice none 0 0).ownBlock=some k->w6.heap.size<=k/\k≠g/\k≠W.heap.size):=jq (λk e=>by cases e);have Ht:=((tZ.block _ (by omega)).trans (RC.out.trans RB.out)).trans mU.out;have b6:=Cc.out.cell;have f6:wZ.cell? ⟨g,m * 8+6,none⟩=some (.slice none 0 0):=H7 re.out.rows.row HY.out;have c1:wZ.cell? ⟨W.heap.size,1,none⟩=some (.int .i64 xf):=by simp[World.cell?,Ht]
            have c2:wZ.cell? ⟨W.heap.size,2,none⟩=some (.int .i64 xt):=by simp[World.cell?,Ht]
            have oP:(0:Int)<=(m:Int):=by omega
            have kr:(m:Int)<(m:Int)+1:=by omega
            have AZ:decide ((20000:Int)<(m:Int)+1)=false:=tQ (by have:=qm.out;omega);have Wu:decide (20000<m+1)=false:=tQ (by have:=qm.out;omega);rw[D4];have Wt:W.heap.size<wZ.heap.size:=by omega
            clear Ht vt GV tZ D4 tI G5;gi_wp2_with fail;refine B5 λa0 cJ=>?_;have kC:=jq cJ;have ju:=jq (show a0.eval (.tmp 6) = .pointer (some ⟨Bh,0,none⟩) by rw[cJ];rfl);have p8:=jq (show a0.eval (.tmp 13) = .int .i64 (m:Nat) by rw[cJ];rfl);have ue:=jq (show a0.eval (.tmp 9) = .pointer (some ⟨W.heap.size,0,none⟩) by rw[cJ];rfl);have HM:=jq (show a0.tmps.size=101 by rw[cJ];rfl);clear cJ;refine EP (by kernel_rfl) (by kernel_rfl) (by rintro⟨_,_,h⟩;exact h) ?_;refine fS 12 (D:=[0,1,2,3,4,5,6,7,8,9,10,11,14,15]) (val:=gj g (m+1) c8 m none 0 0 W.heap.size xf xt undef undef) oV qQ (vp HM.out) (by kernel_rfl) ?_ ?_
            ·intro i aG bn o ho a' hb aF;have k6':=aEJ hb ju.out;have k13':=aEJ hb p8.out;have k9':=aEJ hb ue.out;simp[Act.eval] at k6' k13' k9'
             repeat' (rcases aG with _ | ⟨_,aG⟩)
             all_goals first
              | (exfalso;simp at bn;done)
              | (cases ho
                 try simp[Act.eval,Region.binds,gj,jo] at aF
                 refine fw (by simp[Region.wanted]) ?_;simp[Oper.quietAt,Oper.quietUpon,execOp,go_sem,gj,k6',k13',k9',b6,f6,c1,c2,oP,kr,aF])
            ·intro f listed a' hH hr hv;have av11:=hv 11;simp[Act.eval,gj,jo] at av11;simp only[wpOp];simp[Region.wanted];refine .inl ?_;simp[Oper.wp,execOp,go_sem,av11];obtain⟨wA,pU⟩:=aCY ((wZ.alloc (.cells #[.int .i64 xf,.int .i64 xt] 110)).drew);rw[<-pU];have iE:Below wZ.heap.size wZ wA:=by rw[pU];exact ((vQ _ _).alloc (bQ _) _).drew
             have Oz:wA.heap.size=wZ.heap.size+1:=by rw[pU];simp[World.drew]
             have yW:Hid (wA.cell? ⟨wZ.heap.size,0,none⟩=some (.int .i64 xf)/\wA.cell? ⟨wZ.heap.size,1,none⟩=some (.int .i64 xt)):=jq (by rw[pU];exact⟨by simp[go_sem],by simp[go_sem]⟩);replace b6:=aBX iE b6;replace f6:=aBX iE f6;replace c1:=aBX iE c1;replace c2:=aBX iE c2;have ur:=jq (re.out.keep iE);have eT:=jq iE;clear pU iE;refine fS 13 (D:=[0,1,2,3,4,5,6,7,8,9,10,11,14,15,12]) (val:=gj g (m+1) c8 m none 0 0 W.heap.size xf xt (.slice (some ⟨wZ.heap.size,0,none⟩) 1 1) undef) oV qQ (hH.next oV qQ hr) (by kernel_rfl) ?_ ?_
             ·intro i aG bn o ho a' hb aF;have k6':=aEJ hb ju.out;have k13':=aEJ hb p8.out;have k9':=aEJ hb ue.out;simp[Act.eval] at k6' k13' k9'
              repeat' (rcases aG with _ | ⟨_,aG⟩)
              all_goals first
               | (exfalso;simp at bn;done)
               | (cases ho
                  try simp[Act.eval,Region.binds,gj,jo] at aF
                  refine fw (by simp[Region.wanted]) ?_;simp[Oper.quietAt,Oper.quietUpon,execOp,go_sem,gj,k6',k13',k9',b6,f6,c1,c2,oP,kr,aF])
             ·intro f listed a' hH hr hv;have av6:=hv 6;have av12:=hv 12;simp[gj,jo] at av6 av12;simp only[wpOp];simp[Region.wanted];refine .inl ?_;refine QV wA (.tmp 68) (.tmp 74) rfl w6.heap.size (.slice none 0 0) [] av6 (ur.out.rows.fresh _ (gQ HY.out)) wZ.heap.size xf xt av12 yW.out.1 yW.out.2 (by have:=Gg.out;omega) (by omega) ?_;intro v8 wB bJ bw eX;obtain⟨eA,ec,rfl⟩:=Ph bJ (n:=1) (by rw[List.length_append,uo.out];rfl);have Yb:=bw.size;have ffA:wA.frozen? ⟨g,m * 8+6,none⟩=false:=ur.out.rows.row.frozenAt gG.out _;have rK:wB.heap[Bh]?=wA.heap[Bh]?:=bw.block Bh (by omega) (λe=>by have:=(l7.out Bh e.symm).1;omega);have vC:wB.heap[g]?=wA.heap[g]?:=bw.block g (by omega) (λe=>(l7.out g e.symm).2.1 rfl);have vB:wB.heap[W.heap.size]?=wA.heap[W.heap.size]?:=bw.block W.heap.size (by omega) (λe=>(l7.out _ e.symm).2.2 rfl);replace b6:=(iQ (a:=⟨Bh,0,none⟩) rK).trans b6;replace f6:=(iQ (a:=⟨g,m * 8+6,none⟩) vC).trans f6;replace c1:=(iQ (a:=⟨W.heap.size,1,none⟩) vB).trans c1;replace c2:=(iQ (a:=⟨W.heap.size,2,none⟩) vB).trans c2;have ff:=(World.frozen?_of_block (a:=⟨g,m * 8+6,none⟩) vC).trans ffA;have H8:=jq (And.intro bJ (And.intro bw eX));clear bJ bw eX rK vC vB ffA;refine fS 16 (D:=[0,1,2,3,4,5,6,7,8,9,10,11,14,15,12,13]) (val:=gj g (m+1) c8 m none 0 0 W.heap.size xf xt (.slice (some ⟨wZ.heap.size,0,none⟩) 1 1) (.slice eA 1 ec)) oV qQ (hH.next oV qQ hr) (by kernel_rfl) ?_ ?_
              ·intro i aG bn o ho a' hb aF;have k6':=aEJ hb ju.out;have k13':=aEJ hb p8.out;have k9':=aEJ hb ue.out;simp[Act.eval] at k6' k13' k9'
               repeat' (rcases aG with _ | ⟨_,aG⟩)
               all_goals first
                | (exfalso;simp at bn;done)
                | (cases ho
                   try simp[Act.eval,Region.binds,gj,jo] at aF
                   refine fw (by simp[Region.wanted]) ?_;simp[Oper.quietAt,Oper.quietUpon,execOp,go_sem,gj,k6',k13',k9',b6,f6,c1,c2,oP,kr,aF])
              ·intro f listed a' hH hr hv;have av13:=hv 13;have av15:=hv 15;simp[Act.eval,gj,jo] at av13 av15;simp only[wpOp];simp[Region.wanted];refine .inl ?_;simp[Oper.wp,execOp,go_sem,av13,av15,f6,ff];refine sr hH hr HM.out oV (by kernel_rfl) λfH=>?_
               ·rw[fH,kC.out];simp[kA,Act.put,gj,jo];clear hv hH fH;clear b6 f6 c1 c2 ff;obtain⟨W',hW'⟩:=aCQ (wB.setCell ⟨g,m * 8+6,none⟩ (.slice eA 1 ec));have Fv:Hid (PubK S W₂ w6.heap.size z (λk=>M1 k\/(Value.slice eA 1 ec).ownBlock=some k) (u1.set m (x,[] ++ [⟨xf,xt⟩],.slice eA 1 ec)) (.slice (some ⟨g,0,none⟩) (m+1) c8) W'):=jq (by rw[<-hW'];exact ur.out.changed gG.out HY.out H8.out.2.1 H8.out.1 H8.out.2.2);have iK:Hid (Below w6.heap.size wZ W'):=jq (by rw[<-hW'];exact ((eT.out.aDQ).trans ((vQ _ _).grown H8.out.2.1 (by omega) (λk e=>(l7.out k e).1))).setCell (by dsimp only;omega) _);have F9:Hid ((u1.set m (x,[] ++ [(⟨xf,xt⟩:Np.Span)],Value.slice eA 1 ec)).map (·.1)=u1.map (·.1)):=jq (P6 HY.out rfl);rw[hW'];have D6:W'.heap.size=wB.heap.size:=by rw[<-hW'];simp[World.setCell]
                gi_wp2_with fail;go_roundw
                case measure=>simp[intOf] <;> omega
                case rel=>exact⟨j+1,_,_,_,by omega,by go_num,by omega,jq (aEX Cc.out iK.out),jq (aEX Fd.out iK.out),jq (by rw[F9.out];exact Cb.out.keep iK.out (by omega)),Fv,jq ⟨.inl uw.out.1,.inl uw.out.2.1,.inl uw.out.2.2⟩,jq (kE.out _)⟩
     ·obtain rfl:j=xn:=by omega
      obtain⟨MQ,MR⟩:=gM.out.stop;have F3:=jq MQ;have zp:=jq MR;have Sz:Hid (RdStep (λk=>k=Bh\/k=Bh+1\/k=Bh+1+1) w6 wr):=jq (sO.out.trans gM.out.rd (λk e=>by have:=fl.out k e;omega));clear MQ MR;gi_wp2_with fail;refine⟨λk=>S k\/(W₂.heap.size<=k/\k<wr.heap.size),gM.out.rd.mono (λk e=>.inl e),λk e=>?_,λk e=>?_,us,ov,_,.inl zr.out.1,.inl zr.out.2.1,.inl zr.out.2.2,zp.out,λk e=>?_,λk e=>.inr e,.inl g9.out.1,.inl g9.out.2.2,.inl g9.out.2.1,wT.out,?_,Ka.out,F3.out,?_,Sz.out⟩
      ·rcases e with e | e
       ·exact .inl (.inl e)
       ·exact .inr e.1
      ·rcases e with e | e
       ·have:=SI.out k e;omega
       ·exact e.2
      ·rcases e with e | e
       ·exact fl.out k e
       ·right;right;right;omega
      ·have e:(!(pre ++ [((⟨xh,xf,xt,xs,xA,j,xc⟩,cc):CV×Np.Copy)]).isEmpty)=true:=by simp
       rw[e];exact Kf.out
      ·rw[nU.out,<-ZM Lm.out];exact lC.out
end
section
open Go.RowKit
noncomputable def Np.qR(h:Np.Hist)(z:List UInt8):Int×List Np.Held:=if Np.yes (Np.uH h z) then (if Np.yes (Np.xC h z) then (0,Np.pub h.copies z) else (4,[])) else (1,[])
noncomputable def Np.wO(h:Np.Hist):Int×List (List UInt8):=if Np.yes (Np.VHist h) then (0,Np.apexes h.copies) else (1,[])
theorem Np.Z0{h:Np.Hist}{z:List UInt8}(k:¬ Np.uH h z):Np.qR h z=(1,[]):=by unfold Np.qR;rw[Np.aC k];rfl
theorem Np.Z1{h:Np.Hist}{z:List UInt8}(k:Np.uH h z)(k2:¬ Np.xC h z):Np.qR h z=(4,[]):=by unfold Np.qR;rw[Np.ba k,Np.aC k2];rfl
theorem Np.Pu{h:Np.Hist}{z:List UInt8}(k:Np.uH h z)(k2:Np.xC h z):Np.qR h z=(0,Np.pub h.copies z):=by unfold Np.qR;rw[Np.ba k,Np.ba k2];rfl
theorem Np.Q3{h:Np.Hist}(k:Np.VHist h):Np.wO h=(0,Np.apexes h.copies):=by unfold Np.wO;rw[Np.ba k];rfl
theorem Np.Q2{h:Np.Hist}(k:¬ Np.VHist h):Np.wO h=(1,[]):=by unfold Np.wO;rw[Np.aC k];rfl
structure j8(w:World)(e:List Value)(h:Np.Hist):Prop where
 rh:iz w w.heap.size e h
 use:Np.Use h
 sums:Np.kR h
theorem j8.keep{w w':World}{e:List Value}{h:Np.Hist}(k:j8 w e h)(hb:Below w.heap.size w w'):j8 w' e h:=
 ⟨o4 _ _ _ _ _ (oZ _ _ _ _ _ k.rh hb) hb.size,k.use,k.sums⟩
structure iO(n:Nat)(w:World):Prop where
 rules:iR w n
 pow:fK w
 lt:1<n
theorem iO.keep{n:Nat}{w w':World}(k:iO n w)(hb:Below n w w'):iO n w':=⟨k.rules.keep hb,k.pow.keepAt hb k.lt,k.lt⟩
theorem iO.more{n m:Nat}{w:World}(k:iO n w)(h:n<=m):iO m w:=⟨k.rules.more h,k.pow,lQ k.lt h⟩
theorem iO.next{w w':World}(k:iO w.heap.size w)(hb:Below w.heap.size w w'):iO w'.heap.size w':=(k.keep hb).more hb.size
theorem Tw{h:Np.Hist}(v:Np.VHist h):∀ x∈Np.apexes h.copies,x.length<=140737488355328:=λx hx=>by
 obtain⟨c,hc,rfl⟩:=Np.BN.1 hx;have h1:=(Np.B7 (v.each c hc).zone).1
 have:=(Np.tT h1).1
 omega
theorem LO(l:List Np.Copy):(Np.apexes l).length<=l.length:=by
 unfold Np.apexes;rw[(Np.EG _).length_eq]
 have:=Np.ua (l.map (·.zone.apex))
 rwa [List.length_map] at this
theorem aN.around{base n:Nat}{w:World}{v:Value}{ps:List Np.Span}(h:aN base w v ps)(hn:n<=base)(hl:ps.length<=140737488355328):gZ eJ 2 0 n w v ps:=λM hM=>by
 have h1:aN base (bA w M) v ps:=gY h (λg hg=>ls (λe=>by have:=hM g e;have:=(World.ownsRow.lt h g hg).1;omega));have h2:=h1.slr hl;rwa [kB] at h2
theorem cG.around{base n:Nat}{w:World}{v:Value}{ps:List (List UInt8)}(h:cG base w v ps)(hn:n<=base)(hl:ps.length<=140737488355328)(hs:∀ x∈ps,x.length<=140737488355328):gZ RTx 1 0 n w v ps:=λM hM=>by
 have h1:cG base (bA w M) v ps:=gY h (λg hg=>ls (λe=>by have:=hM g e;have:=(World.ownsRow.lt h g hg).1;omega));have h2:=h1.slr hl hs;rwa [kB] at h2
structure WAt(n:Nat)(w:World)(e:List Value)(x:Np.WorldP)(A1:Option Addr)(n1 c1:Nat)(A2:Option Addr)(n2 c2:Nat)(s:ByteArray)(ty lf:Int)(A3:Option Addr)(n3 c3:Nat)(A4:Option Addr)(n4 c4:Nat):Prop where
 val:e = [.slice A1 n1 c1,.slice A2 n2 c2,.string s,.int .i64 ty,.int .i64 lf,.slice A3 n3 c3,.slice A4 n4 c4]
 all:Gu w w.heap.size e x
 zones:gZ uI 3 0 n w (.slice A2 n2 c2) x.zones
 len:x.zones.length=n2
theorem WAt.keep{n:Nat}{w w':World}{e:List Value}{x:Np.WorldP}{A1:Option Addr}{n1 c1:Nat}{A2:Option Addr}{n2 c2:Nat}{s:ByteArray}{ty lf:Int}{A3:Option Addr}{n3 c3:Nat}{A4:Option Addr}{n4 c4:Nat}(h:WAt n w e x A1 n1 c1 A2 n2 c2 s ty lf A3 n3 c3 A4 n4 c4)(hb:Below w.heap.size w w'):WAt n w' e x A1 n1 c1 A2 n2 c2 s ty lf A3 n3 c3 A4 n4 c4:=
 ⟨h.val,alK _ _ _ _ _ (alJ _ _ _ _ _ h.all hb) hb.size,h.zones.keep Ey Js hb,h.len⟩
theorem cPub(e:List Value)(h:Np.Hist)(z:ByteArray)(hz:z.size<=140737488355328)(w:World)(hV:iO w.heap.size w)(k:j8 w e h) :
 Calls prog 61 #[.agg e.toArray,.string z] w λe w'=>∃ A n c,e = .returned (.tuple #[.slice A n c,.int .i64 (Np.qR h z.data.toList).1])/\(Np.qR h z.data.toList).2.length=n/\gZ ie 8 0 w.heap.size w' (.slice A n c) (Np.qR h z.data.toList).2/\Below w.heap.size w w':=
 (Z6 e h k.use.fewH k.sums z hz (k.use.pairs _) w hV.rules hV.pow k.rh).mono λe w' ⟨h1,h2⟩=>by
   rcases h1 with ⟨n1,rfl⟩ | ⟨n1,⟨n2,rfl⟩ | ⟨n2,v',rfl,h3⟩⟩
   ·rw[Np.Z0 n1];exact⟨_,_,_,rfl,rfl,gZ.nil _ _ _ _,h2⟩
   ·rw[Np.Z1 n1 n2];exact⟨_,_,_,rfl,rfl,gZ.nil _ _ _ _,h2⟩
   ·rw[Np.Pu n1 n2];obtain⟨A,c,rfl⟩:=h3.form;exact⟨_,_,_,rfl,rfl,h3,h2⟩
theorem cZon(e:List Value)(h:Np.Hist)(w:World)(hV:iO w.heap.size w)(k:j8 w e h) :
 Calls prog 60 #[.agg e.toArray] w λe w'=>∃ A n c,e = .returned (.tuple #[.slice A n c,.int .i64 (Np.wO h).1])/\(Np.wO h).2.length=n/\gZ RTx 1 0 w.heap.size w' (.slice A n c) (Np.wO h).2/\Below w.heap.size w w':=
 (aBJ e h k.use.fewH w hV.rules k.rh).mono λe w' ⟨h1,h2⟩=>by
   rcases h1 with ⟨n1,v',rfl,h3⟩ | ⟨n1,rfl⟩
   ·rw[Np.Q3 n1];have h4:=h3.around (bQ _) (by have h4:=LO h.copies;have h5:=k.use.copies;omega) (Tw n1);obtain⟨A,c,rfl⟩:=h4.form;exact⟨_,_,_,rfl,rfl,h4,h2⟩
   ·rw[Np.Q2 n1];exact⟨_,_,_,rfl,rfl,gZ.nil _ _ _ _,h2⟩
theorem LZ(e:List Value)(h:Np.Hist)(w:World)(hV:iO w.heap.size w)(k:j8 w e h) :
 Calls prog 56 #[.agg e.toArray] w (aFQ w.heap.size w (.bool (Np.yes (Np.VHist h)))):=
 Nx e h k.use.fewH w hV.rules k.rh
theorem yw{w:World}{B:Nat}{e:List Value}{h:Np.Hist}(k:iz w B e h):∃ A1 n1 c1 A2 n2 c2 s ty lf A3 n3 c3 A4 n4 c4 dr st,e = [.slice A1 n1 c1,.slice A2 n2 c2,.string s,.int .i64 ty,.int .i64 lf,.slice A3 n3 c3,.slice A4 n4 c4,.int .i64 dr,.int .i64 st]/\h.hosts.length=n1/\h.copies.length=n2/\h.stop=st/\SlR kf 3 w B (.slice A1 n1 c1) h.hosts/\SlR ma 5 w B (.slice A2 n2 c2) h.copies:=by
 obtain⟨hv,cv,s,dv,dV,rfl,_,_,h3,h4,h5,h6⟩:=k;obtain⟨A1,c1,rfl,_⟩:=ak h3;obtain⟨A2,c2,rfl,_⟩:=ak h4;obtain⟨A3,c3,rfl,_⟩:=ak h5;obtain⟨A4,c4,rfl,_⟩:=ak h6;exact⟨A1,_,c1,A2,_,c2,s,_,_,A3,_,c3,A4,_,c4,_,_,rfl,rfl,rfl,rfl,h3,h4⟩
theorem ajJ:gP RTx:=λ_ _ _ _ _ _ _ h=>h
theorem yB{α:Type}{R:aFJ α}{sz:Nat}{w:World}{B:Nat}{v:Value}{xs:List α}(h:SlR R sz w B v xs):∃ A n c,v = .slice A n c:=by
 obtain⟨A,c,rfl,_⟩:=ak h;exact⟨_,_,_,rfl⟩
theorem Np.aBQ{z:Np.Zone}(v:Np.VZone z){x:Np.Signed}(hx:x∈z.sets):Np.UseB x:=by
 obtain⟨_,hv⟩:=Np.B7 v;obtain⟨_,_,_,h4,h5,_⟩:=Np.qY (hv x hx);refine⟨by omega,λg r hg=>?_⟩
 have:=((v.form x hx).2 0 g (by rw[hg];rfl)).win
 omega
theorem Np.Z5{h:Np.Hist}(v:Np.VHist h){z:List UInt8}{x:Np.Held}(hx:x∈Np.pub h.copies z):Np.UseB x.signed:=by
 obtain⟨_,_,_,⟨c,hc,_,h1⟩,_⟩:=Np.Je v.full hx;exact Np.aBQ (v.each c hc).zone h1
theorem Np.Z4{h:Np.Hist}(v:Np.VHist h){z:List UInt8}{x:Np.Held}(hx:x∈Np.pub h.copies z):∀ s∈x.fresh,0<=s.frm/\s.frm<s.til/\s.til<=10000000:=λs hs=>by
 obtain⟨_,_,m3,_,m5⟩:=Np.Je v.full hx;have hf:=m3.full s hs;obtain⟨c,hc,_,_,k1,_⟩:=(m5 s.frm).1 ⟨s,hs,Int.le_refl _,hf⟩;obtain⟨d,hd,_,_,_,k2⟩:=(m5 (s.til - 1)).1 ⟨s,hs,by omega,by omega⟩;have e1:=(v.each c hc).times;have e2:=(v.each d hd).times;have e3:=v.stop;omega
theorem Np.ZW{h:Np.Hist}(v:Np.VHist h)(u:Np.Use h){x:Np.Held}(hx:x∈Np.pubAll h):Np.UseB x.signed/\(∀ s∈x.fresh,0<=s.frm/\s.frm<s.til/\s.til<=10000000)/\x.fresh.length<=20000:=by
 obtain⟨z,_,hz⟩:=Np.O2.1 hx;refine⟨Np.Z5 v hz,Np.Z4 v hz,?_⟩;have hp:=u.pairs z;unfold Np.pub Np.xX at hz;obtain⟨s,_,rfl⟩:=List.mem_map.1 hz;exact yQ (Jh _) (yQ (QA _ _) (by omega))
theorem Np.Use.pubTo{h:Np.Hist}(u:Np.Use h)(k:Nat):(Np.pubTo h k).length<=2100:=Np.Pt (λc hc=>(u.each c hc).1) u.copies k
theorem Np.Use.pubAll{h:Np.Hist}(u:Np.Use h):(Np.pubAll h).length<=2100:=Np.ZV (λc hc=>(u.each c hc).1) u.copies
theorem zV(e:List Value)(h:Np.Hist)(w:World)(hV:iO w.heap.size w)(k:j8 w e h) :
 Calls prog 19 #[.agg e.toArray] w λe w'=>∃ A n c,e = .returned (.tuple #[.slice A n c,.int .i64 (Np.sV h).1])/\(Np.sV h).2.length=n/\gZ ie 8 0 w.heap.size w' (.slice A n c) (Np.sV h).2/\Below w.heap.size w w':=by
 obtain⟨A1,n1,c1,A2,n2,c2,s,ty,lf,A3,n3,c3,A4,n4,c4,dr,st,rfl,-,-,ay,Ie,Hx⟩:=yw k.rh;have Kh:Hid (h.drift=dr):=jq (by
  obtain⟨hv,cv,s',dv,dV,he,_⟩:=k.rh;simp only[List.cons.injEq,Value.int.injEq,true_and,and_true] at he;exact he.2.2.2.2.2.2.2.1.symm)
 have oq:=jq hV;have HI0:=jq k;obtain⟨X,hX⟩:=aCQ w.heap.size;obtain⟨w1,ah⟩:=aCQ (w.alloc (.cells #[.slice A1 n1 c1,.slice A2 n2 c2,.string s,.int .i64 ty,.int .i64 lf,.slice A3 n3 c3,.slice A4 n4 c4,.int .i64 dr,.int .i64 st] 29));have bk:w1.heap.size=X+1:=by rw[<-ah,<-hX];simp
 have hb:Below w.heap.size w w1:=by rw[<-ah];exact (vQ _ _).alloc (bQ _) _
 have az:=jq hb;have fm:=jq (hV.next hb);have j6:=jq (k.keep hb);have aM:=jq (jB _ _ hX ah);clear hb hV k ay Ie Hx;have k0:=aM.out 0 _ rfl;have k1:=aM.out 1 _ rfl;have k2:=aM.out 2 _ rfl;have k3:=aM.out 3 _ rfl;have k4:=aM.out 4 _ rfl;have k5:=aM.out 5 _ rfl;have k6:=aM.out 6 _ rfl;have k7:=aM.out 7 _ rfl;have k8:=aM.out 8 _ rfl;obtain⟨ax,xU⟩:=aCQ (Np.sV h);rw[xU];have ug:=jq xU;clear xU;go_enter func19,ntmps19;go_wp2_with fail;clear ah;refine (cZon _ h w1 fm.out j6.out).mono ?_;rintro e w2 ⟨Az,nz,cz,rfl,NJ,eM,hb⟩;have ai:=jq (az.out.trans (hb.mono az.out.size));have ib:=jq (fm.out.next hb);have nZ:=jq (j6.out.keep hb);have bd:=jq (aM.out.keep hb (by omega));have aK:=hb.size;have ix:=jq (eM.all ajJ);have Kz:=jq NJ;clear hb eM NJ k0 k1 k2 k3 k4 k5 k6 k7 k8;by_cases ij:Np.VHist h
 case neg=>
  rw[Np.Q2 ij];have HN:=jq ij;clear ij;go_wp2_with fail;refine bodyPost_ret (v:=.tuple #[.slice none 0 0,.int .i64 1]) (by simp[results,results19,go_sem]) rfl ?_;rw[<-ug.out,Np.LM HN.out];exact⟨_,_,_,rfl,rfl,gZ.nil _ _ _ _,ai.out⟩
 case pos=>
  have gq:=jq ij;rw[Np.Q3 ij] at ix Kz |-;have Rb:=jq (ug.out.symm.trans (Np.zT ij));have K2:Hid (SlR RTx 1 w2 w2.heap.size (.slice Az nz cz) (Np.apexes h.copies)):=jq ix.out;have FE:Hid ((Np.apexes h.copies).length=nz):=jq Kz.out;have RE:Hid (0<=dr/\dr<=1000):=jq (by rw[<-Kh.out];exact ij.drift);clear ij;obtain⟨B,hB⟩:=aCQ w2.heap.size;have hXB:X<B:=by omega
  obtain⟨i0,nE,db,X8,Ya⟩:=info_parts Tryz.infoHeldA;have vf:nz<=cz:=by
   obtain⟨A',c',h1,h2,_⟩:=ak K2.out;simp only[Value.slice.injEq] at h1;omega
  have jN:nz<=1000:=by
   have h1:=FE.out;have h2:=LO h.copies;have h3:=nZ.out.use.copies;omega
  go_wp2_with fail;go_loopw [6,23] (λvo i wr=>∃ (k m:Nat) (A:Option Addr) (c:Nat) (M:Nat->Prop),k<=nz/\i = .int .i64 k/\vo = .slice A m c/\(Np.pubTo h k).length=m/\Hid ((∀ j,j<X->M j)/\∀ j,M j->(j<X\/B<=j)/\j<wr.heap.size)/\Hid (bF ie 8 57 B M wr (.slice A m c) (Np.pubTo h k))/\Hid (Below B w2 wr)) (λ_ i _=>nz - (intOf i).toNat)
  case atStart=>exact⟨0,0,none,0,λj=>j<X,jQ _,rfl,rfl,rfl,jq ⟨λ_ h=>h,λj h=>⟨.inl h,by omega⟩⟩,jq (bF.nil _),jq (vQ _ _)⟩
  case round=>
   obtain⟨k,m,A,c,M,hk,rfl,rfl,hm,HM,HO,HB⟩:=hrel;have an:=HB.out.size;have jk:m<=2100:=by rw[<-hm];exact nZ.out.use.pubTo k
   have g9:=jq hm;clear hm;by_cases aa:k<nz
   ·obtain⟨z,ac⟩:∃ z,(Np.apexes h.copies)[k]?=some z:=⟨_,aQ (by have:=FE.out;omega)⟩;have cY:=K2.out.later nT PV (show Below w2.heap.size w2 wr by rw[hB];exact HB.out);obtain⟨b,o,zs,rfl,bD,gJ,gK,e0⟩:=qX cY ac;have S6:=jq gJ;have Lo:=jq (Np.BN.1 (gQ ac));have FY:=jq (Np.ZZ ac);have SW:=jq (ib.out.next (show Below w2.heap.size w2 wr by rw[hB];exact HB.out));have RY:=jq (nZ.out.keep (show Below w2.heap.size w2 wr by rw[hB];exact HB.out));have jx:=jq (bd.out.keep HB.out (by omega));have k0:=jx.out 0 _ rfl;have k1:=jx.out 1 _ rfl;have k2:=jx.out 2 _ rfl;have k3:=jx.out 3 _ rfl;have k4:=jx.out 4 _ rfl;have k5:=jx.out 5 _ rfl;have k6:=jx.out 6 _ rfl;have k7:=jx.out 7 _ rfl;have k8:=jx.out 8 _ rfl;have bV:(0:Int)<=(k:Int):=by omega
    have bT:(k:Int)<(nz:Int):=by omega
    clear cY ac gJ;go_wp2_with fail;refine (cPub _ h zs gK wr SW.out RY.out).mono ?_;rw[S6.out];rintro e w3 ⟨Ap,np,cp,rfl,tm,vK,hb⟩;have br:Np.qR h z=(0,Np.pub h.copies z):=Np.Pu ⟨gq.out,by
     obtain⟨c',hc',rfl⟩:=Lo.out;exact (Np.B7 (gq.out.each c' hc').zone).1⟩ Lo.out
    rw[br] at tm vK |-;dsimp only at tm vK;have po:=jq tm;have ng:Hid (xD ie 8 M w3 Ap (Np.pub h.copies z)):=jq (tX (vK M (λj hj=>⟨jQ _,(HM.out.2 j hj).2⟩)) (by decide));have ia:=jq (HO.out.keep sf qU sh hb);have am:=aBY HB hb;have eF:=hb.size;have hmp:m+np<=2100:=by
     have h1:=nZ.out.use.pubTo (k+1);rw[FY.out,List.length_append,g9.out,tm] at h1;exact h1
    have l9:=jq (HO.out.lt);clear hb tm vK br k0 k1 k2 k3 k4 k5 k6 k7 k8 e0;go_wp2_with (at_builtin;refine QS (R:=ie) (M:=M) w3 rfl _ _ 52 rfl B 57 i0 (.agg #[.string ⟨#[]⟩,.string ⟨#[]⟩,.int .i64 0,.int .i64 0,.slice none 0 0,.slice none 0 0,.slice none 0 0,.slice none 0 0]) 144 underlying52 nE db X8 Ya rfl (by decide) (.slice A m c) (Np.pubTo h k) rfl ia.out Ap cp (Np.pub h.copies z) (by rw[po.out];rfl) ng.out aiZ (by rw[g9.out,po.out];unfold maxLen;omega) (by rw[g9.out,po.out];omega) (by omega) sf qU sh ?_;intro v8 w8 bJ bw eX;obtain⟨A8,c8,rfl⟩:=bF.formN bJ (n:=m+np) (by rw[List.length_append,g9.out,po.out]);have H8:=jq (And.intro bJ (And.intro bw eX));clear bJ bw eX);have AZ:decide ((20000:Int)<((m+np:Nat):Int))=false:=aDJ;have qL:=H8.out.2.1.size;go_wp2_with fail;go_roundw
    case rel=>
     refine⟨k+1,m+np,A8,c8,_,by omega,by go_num,rfl,by rw[FY.out,List.length_append,g9.out,po.out],jq ⟨λj hj=>Or.inl (HM.out.1 j hj),λj hj=>?_⟩,jq (by rw[FY.out];exact H8.out.1),jq (am.out.trans ((vQ _ _).grown H8.out.2.1 (by omega) (λg hg=>(l9.out g hg).1)))⟩;rcases hj with hj | hj
     ·have:=HM.out.2 j hj
      omega
     ·have:=H8.out.1.lt j hj
      omega
    case measure=>simp[intOf] <;> omega
   ·have Sl:Hid (Np.pubTo h k=Np.pubAll h):=jq (Np.Ps (by have:=FE.out;omega));rw[Sl.out] at HO g9;go_wp2_with fail;clear aa hk;obtain⟨w4,rfl⟩:=aCY wr;go_loopw [45] (λi wr=>∃ (k:Nat),k<=m/\i = .int .i64 k/\w4.heap.size<=wr.heap.size/\Hid (bF ie 8 57 B M wr (.slice A m c) (Np.oC dr (Np.pubAll h) k))/\Hid (Below B w2 wr)) (λi _=>m - (intOf i).toNat)
    case atStart=>exact⟨0,jQ _,rfl,bQ _,HO,HB⟩
    case round=>
     obtain⟨k,hk,rfl,IF,eH,HC⟩:=hrel;have ku:=HC.out.size;have ql:Hid ((Np.oC dr (Np.pubAll h) k).length=m):=jq (by rw[Np.Tm];exact g9.out);by_cases aa:k<m
     ·obtain⟨x,ac⟩:∃ x,(Np.pubAll h)[k]?=some x:=⟨_,aQ (by rw[g9.out];exact aa)⟩;obtain⟨g,cap,hA,GW,Id,hMg⟩:=eH.out.formSome ql.out (by omega);simp only[Value.slice.injEq,true_and] at hA;obtain⟨rfl,rfl⟩:=hA;obtain⟨b,o,zs,sn,dv,sv,fv,pv,tc,bD,gJ,ar,aO,bh,rE,rO,e0,e1,e2,e3,e4,e5,e6,e7⟩:=Ia (eH.out.slr qU (by rw[ql.out];omega)) (Np.LL ac);simp only[Option.some.injEq,Addr.mk.injEq,and_true] at tc;obtain⟨rfl,rfl⟩:=tc;obtain⟨dA,dn,dc,rfl⟩:=yB aO;obtain⟨gA,gn,gc,rfl⟩:=yB bh;obtain⟨fA,fn,fc,rfl⟩:=yB rE;obtain⟨pA,pn,pc,rfl⟩:=yB rO;have Ge:=jq bh;have Fw:=jq rE;have Cw:=jq (Np.ZW gq.out nZ.out.use (gQ ac));have HAT:=jq (Np.LL (d:=dr) ac);have bO:=jq (Np.Tn (d:=dr) ac);obtain⟨w5,aW⟩:=aCQ (wr.alloc (.cells #[.string zs,.string sn,.int .i64 x.signed.set.type,.int .i64 x.signed.set.life,.slice dA dn dc,.slice gA gn gc,.slice fA fn fc,.slice pA pn pc] 57));have aJ:Below wr.heap.size wr w5:=by rw[<-aW];exact (vQ _ _).alloc (bQ _) _
      have iJ:wr.heap.size<w5.heap.size:=by rw[<-aW];simp
      have sG:=jq (jB _ _ rfl aW);have cm:=jq aJ;have dE:=aBY HC aJ;have k7:=(bd.out.keep dE.out (by omega)) 7 _ rfl;have bV:(0:Int)<=(k:Int):=by omega
      have bT:(k:Int)<(m:Int):=by omega
      have E7:Hid (wr.cell? ⟨g,k * 8+7,none⟩=some (.slice pA pn pc)):=jq (by simpa using e7);simp only[Nat.zero_add] at e0 e1 e2 e3 e4 e5 e6 e7;have d0:=sG.out 0 _ rfl;have d1:=sG.out 1 _ rfl;have d2:=sG.out 2 _ rfl;have d3:=sG.out 3 _ rfl;have d4:=sG.out 4 _ rfl;have d5:=sG.out 5 _ rfl;have d6:=sG.out 6 _ rfl;have d7:=sG.out 7 _ rfl;clear ac gJ ar aO bh rE rO aJ;go_wp2_with fail;clear aW e0 e1 e2 e3 e4 e5 e6 e7 d0 d1 d2 d3 d4 d5 d6 d7;refine (auQ x Cw.out.1 dr RE.out Cw.out.2.1 Cw.out.2.2 zs sn dA gA fA pA dn dc gn gc fn fc pn pc w5 (Ge.out.later dD eu cm.out) (Fw.out.later iu pW cm.out)).mono ?_;rintro e w6 ⟨v6,rfl,nK,hb⟩;obtain⟨A6,c6,rfl⟩:=nK.form;obtain⟨n6,Iu⟩:=aCQ ((Np.pa x dr).length);rw[Iu] at nK |-;have ri:=jq nK;have iq:=hb.size;have iK:=aBY cm hb;have KJ:=jq (eH.out.keep sf qU sh iK.out);have q7:=aBX iK.out E7.out;have z7:=KJ.out.frozenAt ql.out (k * 8+7);have KG:=jq Iu;clear nK hb k7 Iu;go_wp2_with fail;go_roundw
      case rel=>
       refine⟨k+1,by omega,by go_num,by simp[World.setCell];omega,jq ?_,jq ((HC.out.trans (iK.out.aDQ)).setCell (by dsimp only;omega) _)⟩;rw[<-bO.out];have DY:SlR eJ 2 (bA w6 M) w6.heap.size (.slice A6 n6 c6) (Np.pa x dr):=(ri.out.around (n:=w5.heap.size) (bQ _) (by rw[KG.out];have:=Jh (x.fresh.map (Np.kV x.signed dr));have h2:=KG.out;unfold Np.pa at h2;rw[List.length_map] at this;have:=Cw.out.2.2;omega)) M (λj hj=>⟨jQ _,by have:=(HM.out.2 j hj).2;omega⟩)
       have:=bF.stored sf qU sh KJ.out ql.out HAT.out (c:=7) (by decide) (.slice A6 n6 c6) (y:=⟨x.zone,x.signed,x.fresh,Np.pa x dr⟩) (λr _ hr=>aiJ hr DY)
       simpa using this
      case measure=>simp[intOf] <;> omega
     ·have aY:Hid (Np.oC dr (Np.pubAll h) k=Np.bM h):=jq (by rw[<-Kh.out];exact Np.Tl (by rw[g9.out];omega));rw[aY.out] at eH ql;have HE:Hid (Below w.heap.size w wr):=aBY ai HC.out;go_wp2_with fail;refine bodyPost_ret (v:=.tuple #[.slice A m c,.int .i64 0]) (by simp[results,results19,go_sem]) rfl ?_;rw[Rb.out];refine⟨_,_,_,rfl,ql.out,λM' hM'=>?_,HE.out⟩;exact eH.out.slr_sans qU sh (λj hj=>⟨HM.out.1 j (by have:=(hM' j hj).2;omega),λe=>by have:=(eH.out.lt j e).1;have:=(hM' j hj).2;omega⟩) (by rw[ql.out];omega)
end
section
open Go.RowKit Go.Shelf Go.MapKept
attribute [local go_sem] Oper.semAt_some HC.cells
theorem Tryz.infoSignedP:(prog.info? 42).map (λi=>(i.zero,i.size,i.bytes))=some (some (.agg #[.string ⟨#[]⟩,.int .i64 0,.int .i64 0,.slice none 0 0,.slice none 0 0]),5,80):=by kernel_rfl
theorem bF.sameM{α:Type}{R:aFJ α}{sz:Nat}{e:TypeId}{base:Nat}{M M':Nat->Prop}{w:World}{v:Value}{xs:List α}(h:bF R sz e base M w v xs)(hM:∀ k,M k↔M' k):bF R sz e base M' w v xs:=by
 have:M=M':=funext λk=>propext (hM k)
 rw[<-this];exact h
theorem ajZ:∀ (w:World) (B:Nat) (r:List Value) (y:Np.Signed),bP w B r y->∀ u∈r,u.oneCell'=true:=λw B r y ⟨s,v,u',_,_,h3,h4,h5⟩ u hu=>by
 obtain⟨A,c,rfl,_⟩:=ak h3;obtain⟨A',c',rfl,_⟩:=ak h4;rw[h5] at hu;simp only[List.mem_cons,Qh,or_false] at hu;rcases hu with rfl | rfl | rfl | rfl | rfl <;> rfl
def usP(n:List UInt8)(ty:Int)(pre:List (HC×Np.Held)):List Np.Signed:=Np.dg (Np.rp (pre.map (·.2)) n ty)
theorem QI{n:List UInt8}{ty:Int}{pre:List (HC×Np.Held)}{x:HC×Np.Held}(h:¬ (x.2.signed.set.name=n/\x.2.signed.set.type=ty)):usP n ty (pre ++ [x])=usP n ty pre:=by
 unfold usP;rw[List.map_append,List.map_singleton,Np.GB,Qc h]
theorem atJ{n:List UInt8}{ty:Int}{pre:List (HC×Np.Held)}{x:HC×Np.Held}(h:x.2.signed.set.name=n/\x.2.signed.set.type=ty)(hu:x.2.signed∈usP n ty pre):usP n ty (pre ++ [x])=usP n ty pre:=by
 unfold usP at hu |-;rw[List.map_append,List.map_singleton,Np.GB,Qb h,Np.yH,Np.CP hu]
theorem atZ{n:List UInt8}{ty:Int}{pre:List (HC×Np.Held)}{x:HC×Np.Held}(h:x.2.signed.set.name=n/\x.2.signed.set.type=ty)(hu:x.2.signed∉usP n ty pre):usP n ty (pre ++ [x])=usP n ty pre ++ [x.2.signed]:=by
 unfold usP at hu |-;rw[List.map_append,List.map_singleton,Np.GB,Qb h,Np.yH,Np.iC,Qc hu]
theorem atQ{n:List UInt8}{ty:Int}{pre:List (HC×Np.Held)}{s:Np.Signed}(h:s∈usP n ty pre):∃ x∈pre,x.2.signed=s:=by
 unfold usP Np.rp at h;rw[Np.tS,List.mem_map] at h;obtain⟨y,hy,rfl⟩:=h;obtain⟨x,hx,rfl⟩:=List.mem_map.1 (List.mem_filter.1 hy).1;exact⟨x,hx,rfl⟩
theorem asY(n:List UInt8)(ty:Int)(pre:List (HC×Np.Held)):(usP n ty pre).length<=pre.length:=by
 unfold usP Np.rp;have h1:=Np.ua (((pre.map (·.2)).filter λx=>(x.signed.set.name == n)&&decide (x.signed.set.type=ty)).map (·.signed));rw[List.length_map] at h1;have h2:=List.length_filter_le (λx:Np.Held=>(x.signed.set.name == n)&&decide (x.signed.set.type=ty)) (pre.map (·.2));rw[List.length_map] at h2;omega
theorem Qi{α:Type}{R:aFJ α}{sz B:Nat}{w w':World}{v:Value}{xs:List α}(h:SlR R sz w B v xs)(he:w'.heap=w.heap)(hR:∀ e x,R w B e x->R w' B e x:=by exact λ_ _ h=>h):SlR R sz w' B v xs:=by
 obtain⟨A,c,h1,h2,h3,h4⟩:=h;refine⟨A,c,h1,h2,h3,λi x hx=>?_⟩;obtain⟨b,o,e,h5,h6,h7,h8,h9⟩:=h4 i x hx;exact⟨b,o,e,h5,h6,h7,λj v hj=>(iQ (by rw[he])).trans (h8 j v hj),hR _ _ h9⟩
def Gs(w6:World)(Mb Ob:Nat)(n:List UInt8)(ty:Int)(pre:List (HC×Np.Held))(S:Nat->Prop)(W:World):Prop:=
 ∃ v,(∀ k,S k↔(k=Mb\/k=Ob)\/v.ownBlock=some k)/\dj Mb (Np.mJ (usP n ty pre)) W/\Boxed W Ob 36 v/\bF bP 5 42 w6.heap.size (λk=>Mb<=k) W v (usP n ty pre)/\RdStep (λk=>k=Mb\/k=Ob) w6 W
theorem Pn(w6:World)(Mb Ob:Nat)(n:List UInt8)(ty:Int)(hM:Mb<=w6.heap.size):fL w6.heap.size (Gs w6 Mb Ob n ty):=by
 rintro pre S W W' ⟨v,hS,h1,h2,h3,h4⟩ ay;refine⟨v,hS,h1.stays (ay.keep Mb h1.lt (.inr ((hS _).2 (.inl (.inl rfl))))),kg h2 ay ((hS _).2 (.inl (.inr rfl))),?_,⟨ay.os.trans h4.os,ay.tape.trans h4.tape,ay.output.trans h4.output,yQ h4.size ay.size,λk hk mp=>(ay.keep k (lQ hk h4.size) (.inl hk)).trans (h4.keep k hk mp)⟩⟩;exact h3.leaves bH sj dH ⟨ay.os,ay.tape,ay.output,ay.size,λi hi hm=>⟨hm,ay.keep i hi (.inl (by omega))⟩⟩ (λg hg=>⟨ay.keep g (h3.lt g hg).2 (.inr ((hS g).2 (.inr hg))),by have:=(h3.lt g hg).1;omega⟩)
theorem Np.ZX{h:Np.Hist}(v:Np.VHist h)(hs:Np.kR h){x:Np.Held}(hx:x∈Np.pubAll h):KeyS x.signed/\Np.Plain47 x.signed:=by
 obtain⟨z,_,hz⟩:=Np.O2.1 hx;obtain⟨_,_,_,⟨c,hc,_,h1⟩,_⟩:=Np.Je v.full hz;exact⟨Q5 (v.each c hc).zone h1 (hs c hc _ h1),Np.J0 (v.each c hc).zone h1 (hs c hc _ h1)⟩
theorem Np.LJ{h:Np.Hist}(v:Np.VHist h)(hs:Np.kR h){x:Np.Held}(hx:x∈Np.bM h):KeyS x.signed/\Np.Plain47 x.signed:=by
 obtain⟨y,hy,rfl⟩:=List.mem_map.1 hx;show KeyS y.signed/\Np.Plain47 y.signed;exact Np.ZX v hs hy
theorem CW(e:List Value)(h:Np.Hist)(q:ByteArray)(hq:q.size<=140737488355328)(ty t:Int)(w:World)(hV:iO w.heap.size w)(k:j8 w e h) :
 Calls prog 17 #[.agg e.toArray,.agg #[.string q,.int .i64 ty],.int .i64 t] w λe w'=>∃ A n c,e = .returned (.tuple #[.slice A n c,.int .i64 (Np.se h q.data.toList ty t).1])/\(Np.se h q.data.toList ty t).2.length=n/\SlR bP 5 w' w'.heap.size (.slice A n c) (Np.se h q.data.toList ty t).2/\Below w.heap.size w w':=by
 obtain⟨A1,n1,c1,A2,n2,c2,s,ty0,lf,A3,n3,c3,A4,n4,c4,dr,st,rfl,-,-,-,-,-⟩:=yw k.rh;obtain⟨X,hX⟩:=aCQ w.heap.size;obtain⟨px,br⟩:=aCQ (Np.se h q.data.toList ty t);rw[br];have nf:=jq br;obtain⟨w1,ah⟩:=aCQ ((w.alloc (.cells #[.slice A1 n1 c1,.slice A2 n2 c2,.string s,.int .i64 ty0,.int .i64 lf,.slice A3 n3 c3,.slice A4 n4 c4,.int .i64 dr,.int .i64 st] 29)).alloc (.cells #[.string q,.int .i64 ty] 31));have bk:w1.heap.size=X+2:=by rw[<-ah,<-hX];simp
 have hb:Below w.heap.size w w1:=by rw[<-ah];exact ((vQ _ _).alloc (bQ _) _).alloc (by simp) _
 have aq:=jq hb;have fm:=jq (hV.next hb);have j6:=jq (k.keep hb);have aM:Hid (lu w1 X [.slice A1 n1 c1,.slice A2 n2 c2,.string s,.int .i64 ty0,.int .i64 lf,.slice A3 n3 c3,.slice A4 n4 c4,.int .i64 dr,.int .i64 st]):=jq (by
  rw[<-ah,<-hX];exact (jB [.slice A1 n1 c1,.slice A2 n2 c2,.string s,.int .i64 ty0,.int .i64 lf,.slice A3 n3 c3,.slice A4 n4 c4,.int .i64 dr,.int .i64 st] 29 rfl rfl).keep ((vQ _ _).alloc (bQ _) _) (by simp))
 have q0:w1.cell? ⟨X+1,0,none⟩=some (.string q):=by rw[<-ah,<-hX];simp[go_sem]
 have q1:w1.cell? ⟨X+1,1,none⟩=some (.int .i64 ty):=by rw[<-ah,<-hX];simp[go_sem]
 have ka:=jq (And.intro q0 q1);have Sw:=jq hq;clear hb hV k br hq;have k0:=aM.out 0 _ rfl;have k1:=aM.out 1 _ rfl;have k2:=aM.out 2 _ rfl;have k3:=aM.out 3 _ rfl;have k4:=aM.out 4 _ rfl;have k5:=aM.out 5 _ rfl;have k6:=aM.out 6 _ rfl;have k7:=aM.out 7 _ rfl;have k8:=aM.out 8 _ rfl;refine (callsIn_wide (n:=0)).1 ?_;refine callsIn_of_wp_marks func17 rfl trivial ?_ rfl;simp only[ntmps17,List.size_toArray,List.length_cons,List.length_nil,Nat.reduceAdd,Nat.reduceSub,Array.replicate_succ,Array.replicate_zero,List.push_toArray,List.append_toArray,List.nil_append,List.cons_append];gi_wp2_with fail;clear ah;refine⟨trivial,rfl,?_⟩;refine (callsIn_wide.2 (LZ _ h w1 fm.out j6.out)).mono ?_;rintro e w2 ⟨rfl,hb⟩;have aK:=hb.size;have ai:=aBY aq hb;have ib:=jq (fm.out.next hb);have nZ:=jq (j6.out.keep hb);have bd:=jq (aM.out.keep hb (by omega));replace q0:=aBX hb q0;replace q1:=aBX hb q1;have mT:=jq hb;clear hb k0 k1 k2 k3 k4 k5 k6 k7 k8;by_cases ij:Np.VHist h
 case neg=>
  rw[Np.aC ij];have HN:=jq ij;clear ij;have g8:Hid (px=((1:Int),[])):=jq (by rw[<-nf.out];exact Np.Ek (λk=>HN.out k.1));gi_wp2_with fail;refine⟨trivial,?_⟩;gi_wp2_with fail;refine kh (v:=.tuple #[.slice none 0 0,.int .i64 1]) (by simp[results,results17,go_sem]) ?_;rw[g8.out];exact⟨_,_,_,rfl,rfl,mP _ _ _ _,ai.out⟩
 case pos=>
  rw[Np.ba ij];have gq:=jq ij;clear ij;gi_wp2_with fail;refine⟨trivial,rfl,?_⟩;refine (callsIn_wide.2 (Xc q Sw.out ty w2)).mono ?_;rintro e w3 ⟨rfl,hb⟩;have eF:=hb.size;have am:=aBY ai hb;have kJ:=jq (ib.out.next hb);have sJ:=jq (nZ.out.keep hb);have bg:=jq (bd.out.keep hb (by omega));have qZ:=aBY mT hb;clear hb q0 q1;by_cases hQ:Np.QOk q.data.toList ty
  case neg=>
   rw[Np.aC hQ];have HN:=jq hQ;clear hQ;have g8:Hid (px=((1:Int),[])):=jq (by rw[<-nf.out];exact Np.Ek (λk=>HN.out k.2.1));gi_wp2_with fail;refine kh (v:=.tuple #[.slice none 0 0,.int .i64 1]) (by simp[results,results17,go_sem]) ?_;rw[g8.out];exact⟨_,_,_,rfl,rfl,mP _ _ _ _,am.out⟩
  case pos=>
   rw[Np.ba hQ];have zm:=jq hQ;clear hQ;by_cases pR:t<0
   ·have rB:decide (t<0)=true:=uQ pR;have HN:=jq pR;clear pR;have g8:Hid (px=((1:Int),[])):=jq (by rw[<-nf.out];exact Np.Ek (λk=>by have:=k.2.2.1;have:=HN.out;omega));gi_wp2_with fail;refine kh (v:=.tuple #[.slice none 0 0,.int .i64 1]) (by simp[results,results17,go_sem]) ?_;rw[g8.out];exact⟨_,_,_,rfl,rfl,mP _ _ _ _,am.out⟩
   ·have rB:decide (t<0)=false:=tQ pR;by_cases pS:20000000<t
    ·have fG:decide (20000000<t)=true:=uQ pS;have HN:=jq pS;clear pS;have g8:Hid (px=((1:Int),[])):=jq (by rw[<-nf.out];exact Np.Ek (λk=>by have:=k.2.2.2;have:=HN.out;omega));gi_wp2_with fail;refine kh (v:=.tuple #[.slice none 0 0,.int .i64 1]) (by simp[results,results17,go_sem]) ?_;rw[g8.out];exact⟨_,_,_,rfl,rfl,mP _ _ _ _,am.out⟩
    ·have fG:decide (20000000<t)=false:=tQ pS;have bl:Hid (Np.zM h q.data.toList ty t):=jq ⟨gq.out,zm.out,by omega,by omega⟩;have ug:Hid (px=((0:Int),Np.fe (Np.bM h) q.data.toList ty t)):=jq (by rw[<-nf.out];exact Np.Jk bl.out);clear pR pS;have k0:=bg.out 0 _ rfl;have k1:=bg.out 1 _ rfl;have k2:=bg.out 2 _ rfl;have k3:=bg.out 3 _ rfl;have k4:=bg.out 4 _ rfl;have k5:=bg.out 5 _ rfl;have k6:=bg.out 6 _ rfl;have k7:=bg.out 7 _ rfl;have k8:=bg.out 8 _ rfl;gi_wp2_with fail;refine⟨trivial,rfl,?_⟩;refine (callsIn_wide.2 (zV _ h w3 kJ.out sJ.out)).mono ?_;rw[Np.zT gq.out];rintro e w4 ⟨Aa,na,ca,rfl,my,Bt,hb⟩;have fd:=hb.size;have aP:=aBY am hb;have E4:=aBY qZ hb;have kG:=jq (kJ.out.next hb).pow;have F6:Hid (SlR ie 8 w4 w4.heap.size (.slice Aa na ca) (Np.bM h)):=jq (Bt.all qU);have vF:(Np.bM h).length=na:=my;have WY:na<=2100:=by rw[<-vF];unfold Np.bM;rw[List.length_map];exact j6.out.use.pubAll
     have KH:=jq vF;clear hb Bt my vF k0 k1 k2 k3 k4 k5 k6 k7 k8 rB fG;obtain⟨Mb,qy⟩:=aCQ w4.heap.size;have lN:∀ (w:World),(Instr.makeMap 111 none).run prog w = .ok (.map (some w.heap.size)) (w.alloc (.map #[] 0)):=λw=>by
      simp[Instr.makeMap,Result.andThen]
     obtain⟨w5,aW⟩:=aCQ (((w4.alloc (.map #[] 0)).alloc (.cells #[.map (some Mb)] 111)).alloc (.cells #[.slice none 0 0] 36));have iJ:w5.heap.size=Mb+3:=by rw[<-aW,<-qy];simp
     have aJ:Below w4.heap.size w4 w5:=by rw[<-aW];exact (((vQ _ _).alloc (bQ _) _).alloc (by simp) _).alloc (by simp <;> omega) _
     have qm:Hid (dj Mb [] w5):=jq (by
      rw[<-aW,<-qy];exact ((dj.made w4).keep ((vQ _ _).alloc (bQ _) _) (by simp)).keep ((vQ _ _).alloc (bQ _) _) (by simp <;> omega))
     have Gm:Hid (Boxed w5 (Mb+1) 111 (.map (some Mb))):=jq (by
      rw[<-aW,<-qy]
      have:=(Boxed.new (w4.alloc (.map #[] 0)) 111 (.map (some w4.heap.size))).alloc (.cells #[.slice none 0 0] 36)
      simpa using this)
     have pp:Hid (Boxed w5 (Mb+1+1) 36 (.slice none 0 0)):=jq (by
      rw[<-aW,<-qy]
      have:=Boxed.new ((w4.alloc (.map #[] 0)).alloc (.cells #[.map (some w4.heap.size)] 111)) 36 (.slice none 0 0)
      simpa using this)
     have cm:=aBY aP aJ;have E5:=aBY E4 aJ;have p9:=jq aJ;clear aJ;gi_wp2_with fail;clear lN;refine⟨trivial,rfl,?_⟩;refine (callsIn_wide.2 (M0 _ Aa na ca rfl t w5)).mono ?_;rintro e w6 ⟨rfl,cj⟩;have iq:w6.heap.size=Mb+5:=by rw[cj];simp;omega
     have aR:Below w5.heap.size w5 w6:=by rw[cj];exact ((vQ _ _).alloc (bQ _) _).alloc (by simp) _
     have kX:w6.cell? ⟨Mb+3,0,none⟩=some (.slice Aa na ca):=by rw[cj,<-iJ];simp[go_sem]
     have kT:w6.cell? ⟨Mb+3+1,0,none⟩=some (.int .i64 t):=by rw[cj,show Mb+3+1=w5.heap.size+1 by omega];simp[go_sem]
     rw[iJ];have sE:=aBY p9 aR;obtain⟨L,ii,lI,pC⟩:=Nf (F6.out.keep sf sE.out);have zd:Hid (∀ x∈L,uk w6 w4.heap.size x.1 x.2):=jq (λx hx=>by
      obtain⟨i,hi⟩:=List.mem_iff_getElem?.1 hx;exact (pC i x hi).1)
     have ze:Hid (∀ x∈L,KeyS x.2.signed/\Np.Plain47 x.2.signed):=jq (λx hx=>Np.LJ gq.out j6.out.sums (by rw[<-ii];exact List.mem_map.2 ⟨x,hx,rfl⟩));have uq:=jq (M2 L t (Mb+3) (Mb+3+1) na ca (λk=>k<w6.heap.size/\¬ (k=Mb\/k=Mb+1+1)) Aa w6 ⟨by omega,by omega⟩ ⟨by omega,by omega⟩ kX kT lI (by omega)
      (λi x hx=>by
        obtain⟨_,b,o,h1,h2,h3⟩:=pC i x hx;exact⟨b,o,h1,⟨by omega,by omega⟩,h3⟩)
      (λx hx W hW=>by
        have h1:=(zd.out x hx).spans;have aD:Below w4.heap.size w6 ({ w6 with heap:=W.heap } : World):=⟨rfl,rfl,rfl,hW.1,λk hk=>(hW.2 k ⟨by omega,by omega⟩).2⟩;have h2:=(h1.keep iu aD).more pW (show w4.heap.size<=W.heap.size by have:=hW.1;omega);exact Qi h2 rfl))
     have zg:Hid (dj Mb [] w6):=jq (qm.out.keep aR (by omega));have CG:=jq (aEX Gm.out aR);have ri:=jq (aEX pp.out aR);have du:=aBY cm aR;have Ca:=aBY E5 aR;have mY:=jq ii;have xi:=jq lI;have og:=jq (kG.out.keep sE.out);have zi:Hid (1<Mb):=jq (by rw[<-qy];exact kG.out.lt);have Ln:=jq iq;clear aR cj aW kX kT ii pC lI;gi_wp2_with fail;refine EO (Dr:=λk=>k<w6.heap.size/\¬ (k=Mb\/k=Mb+1+1)) (w0:=w6) (first:=#[]) (captured:=#[.pointer (some ⟨Mb+3,0,none⟩),.pointer (some ⟨Mb+3+1,0,none⟩)]) (gf:=127) rfl Mp (mk:=λy=>#[y,.pointer (some ⟨Mb+3,0,none⟩),.pointer (some ⟨Mb+3+1,0,none⟩)]) (λ_=>rfl)
      uq.out (eB.refl λk e=>e.1) (λ_=>rfl) (Gs w6 Mb (Mb+1+1) q.data.toList ty) (λ_ _ _ _=>False)
      (Pn _ _ _ _ _ (by omega)) (λc s S W W' h _=>h)
      (λk=>k=Mb\/k=Mb+1+1) (λk h1 h2=>h2.2 h1) (by intro k h;omega)
      ⟨.slice none 0 0,λk=>by simp[Value.ownBlock],zg.out,ri.out,bF.nil _,RdStep.refl _ _⟩ ?round ?done ?stop
     case stop=>
      rintro D c pre S W hD gw bj ga h hK;exact h.elim
     case done=>
      rintro D S W hD gw bj ⟨v,hS,hms,fE,hown,aI⟩ hK;have tf:usP q.data.toList ty (L.filter λx=>Np.t8 x.2.spans t)=Np.fe (Np.bM h) q.data.toList ty t:=by
       unfold usP;rw[Np.ZI,<-mY.out,List.filter_map];rfl
      rw[tf] at hown;obtain⟨m,hm⟩:=aCQ ((Np.fe (Np.bM h) q.data.toList ty t).length);have jk:m<=2100:=by rw[<-hm];have:=Np.Po (Np.bM h) q.data.toList ty t;have:=KH.out;omega
      obtain⟨vA,vc,rfl⟩:=hown.formN hm;have HM:=jq hm;have bc:=fE.cell;have rt:=aI.size;have aa:=(eQ.1 hK).1;have kI:Hid (SlR bP 5 (W.putObj D (.deferred none)) W.heap.size (.slice vA m vc) (Np.fe (Np.bM h) q.data.toList ty t)):=jq (by
       have h1:=hown.leaves (w':=W.putObj D (.deferred none)) (M':=λk=>Mb<=k) bH sj dH ⟨rfl,rfl,rfl,by simp,λi hi Ir=>⟨Ir,zQ (by omega)⟩⟩ (λg hg=>⟨zQ (λe=>gw (e ▸ (hS g).2 (.inr hg))),by have:=(hown.lt g hg).1;omega⟩);have h2:=h1.slr sj (by rw[hm];omega);simpa using h2)
      have aZ:Hid (Below X w W):=jq ((show Below X w w6 by rw[<-hX];exact du.out).trans (aI.below (by omega) (λk e=>by omega)));have qk:=jq hK;have j5:Hid (X<=D):=jq (by omega);clear hK hown fE hms hS aI tf hm;gi_wp2_with fail;refine nu qk.out (v:=.tuple #[.slice vA m vc,.int .i64 0]) (by simp[results,results17,go_sem]) ?_;rw[ug.out];exact⟨_,_,_,rfl,HM.out,by simpa using kI.out,by rw[hX];exact me aZ.out j5.out _⟩
     case round=>
      rintro l0 pre ⟨⟨xz,xs,xty,xlf,dA,dn,dc,gA,gn,gc,fA,fn,fc,pA,pn,pc⟩,cc⟩ S W br hI fq;have zj:=jq br;have zD:Hid ((⟨xz,xs,xty,xlf,dA,dn,dc,gA,gn,gc,fA,fn,fc,pA,pn,pc⟩,cc)∈L):=jq ((List.mem_filter.1 (br.subset (List.mem_append_right _ (List.mem_singleton.2 rfl)))).1);have tB:pre.length<=2100:=by
       have h1:=br.length_le;have h2:=List.length_filter_le (λx:HC×Np.Held=>Np.t8 x.2.spans t) L;have h3:=xi.out;rw[List.length_append,List.length_singleton] at h1;omega
      have nc:Hid (∀ y∈pre,Np.Plain47 y.2.signed):=jq (λy hy=>(ze.out y (List.mem_filter.1 (br.subset (List.mem_append_left _ hy))).1).2);have mg:Gs w6 Mb (Mb+1+1) q.data.toList ty pre S (W.alloc (.cells #[.string xz,.string xs,.int .i64 xty,.int .i64 xlf,.slice dA dn dc,.slice gA gn gc,.slice fA fn fc,.slice pA pn pc] 57)):=by
       obtain⟨v,hS,hms,fE,hown,aI⟩:=hI;have hb:Below W.heap.size W (W.alloc (.cells #[.string xz,.string xs,.int .i64 xty,.int .i64 xlf,.slice dA dn dc,.slice gA gn gc,.slice fA fn fc,.slice pA pn pc] 57)):=(vQ _ _).alloc (bQ _) _;exact⟨v,hS,hms.keep hb hms.lt,fE.alloc _,hown.keep bH sj dH hb,aI.then_below hb⟩
      have rt:w6.heap.size<=W.heap.size:=by obtain⟨v,_,_,_,_,aI⟩:=hI;exact aI.size
      have aCJ:=jq fq;clear hI br;gi_wp2;refine⟨λk=>S k\/k=W.heap.size,(RdStep.refl S W).alloc _,λk e=>e.imp id (λh=>by omega),λk e=>by rcases e with e | e;have:=fq k e;simp;omega;simp;omega,?_⟩;intro l W₂ ay;obtain⟨E,hE⟩:=aCQ W.heap.size;obtain⟨v,hS,hms,fE,hown,aI⟩:=Pn w6 Mb (Mb+1+1) q.data.toList ty (by omega) pre S _ W₂ mg (ay.weaken (bQ _) (λk e=>.inl e));have ku:=ay.size;simp only[World.size_alloc] at ku;have fO:W₂.heap[E]?=some (.cells #[.string xz,.string xs,.int .i64 xty,.int .i64 xlf,.slice dA dn dc,.slice gA gn gc,.slice fA fn fc,.slice pA pn pc] 57 (0,0)):=by rw[<-hE];exact (ay.keep W.heap.size (by simp) (.inr (.inr rfl))).trans (heap_alloc_new _ _)
      have mU:=jq fO;rw[hE] at ku rt |-;have d1:W₂.cell? ⟨E,1,none⟩=some (.string xs):=(by simp[World.cell?,fO]);have d2:W₂.cell? ⟨E,2,none⟩=some (.int .i64 xty):=(by simp[World.cell?,fO]);have d3:W₂.cell? ⟨E,3,none⟩=some (.int .i64 xlf):=(by simp[World.cell?,fO]);have d4:W₂.cell? ⟨E,4,none⟩=some (.slice dA dn dc):=(by simp[World.cell?,fO]);have d5:W₂.cell? ⟨E,5,none⟩=some (.slice gA gn gc):=(by simp[World.cell?,fO]);have mh:∀ k,S k->k<W₂.heap.size:=λk e=>by have:=fq k e;omega
      have lU:∀ g,v.ownBlock=some g->w6.heap.size<=g/\g<W₂.heap.size:=λg hg=>hown.lt g hg;have Dj:¬ S E:=λe=>by have:=fq _ e;omega
      obtain⟨us,D1⟩:=aCQ (usP q.data.toList ty pre);have qp:=jq D1;have XL:us.length<=2100:=by rw[<-D1];have:=asY q.data.toList ty pre;omega
      rw[D1] at hms hown;obtain⟨m,hm⟩:=aCQ us.length;rw[hm] at XL;obtain⟨vA,vc,rfl⟩:=hown.formN hm;have HM:=jq hm;have lA:=jq (zd.out _ zD.out);have om:=jq (ze.out _ zD.out);have CB:Hid (∀ y∈us,Np.Plain47 y):=jq (λy hy=>by
       rw[<-qp.out] at hy;obtain⟨x,hx,rfl⟩:=atQ hy;exact nc.out x hx)
      have fJ:=jq hS;have sM:=jq hms;have gE:=jq fE;have iw:=jq hown;have sO:=jq aI;have kI:=jq mh;have ni:=jq lU;have bq0:W₂.cell? ⟨X+1,0,none⟩=some (.string q):=(iQ (a:=⟨X+1,0,none⟩) (aI.keep (X+1) (by omega) (by omega))).trans (aBX Ca.out ka.out.1);have bq1:W₂.cell? ⟨X+1,1,none⟩=some (.int .i64 ty):=(iQ (a:=⟨X+1,1,none⟩) (aI.keep (X+1) (by omega) (by omega))).trans (aBX Ca.out ka.out.2);have ot:Hid (Boxed W₂ (Mb+1) 111 (.map (some Mb))):=jq (CU CG.out aI (by omega));have Fn:Hid (SlR bK 3 W₂ W₂.heap.size (.slice dA dn dc) cc.signed.set.data):=jq ((lA.out.data.keep cM (aI.below (n:=w4.heap.size) (by omega) (λk e=>by omega))).more dt (by omega));have SG:Hid (SlR dl 6 W₂ W₂.heap.size (.slice gA gn gc) cc.signed.sigs):=jq ((lA.out.sigs.keep dD (aI.below (n:=w4.heap.size) (by omega) (λk e=>by omega))).more eu (by omega));have kH:Hid (fK W₂):=jq (og.out.keepAt (aI.below (n:=Mb) (by omega) (λk e=>by omega)) zi.out);have Ga:Hid (∀ k,(S k\/k=E)↔(((k=Mb\/k=Mb+1+1)\/(Value.slice vA m vc).ownBlock=some k)\/k=E)):=jq (λk=>or_congr (hS k) Iff.rfl);have FM:Hid (xs.data.toList=cc.signed.set.name):=jq lA.out.name;have di:Hid (xty=cc.signed.set.type):=jq lA.out.type;have xl:Hid (xlf=cc.signed.set.life):=jq lA.out.life;have wk:E<W₂.heap.size:=by omega
      clear hm hms fE hown hS aI ay mg lU fq mh D1 fO hE;by_cases oO:xs.data.toList=q.data.toList
      case neg=>
       have hne:(xs.toList == q.toList)=false:=beq_eq_false_iff_ne.2 (λe=>oO (by rw[<-dQ,e,dQ]));have uy:=jq oO;clear oO;have bO:Hid (usP q.data.toList ty (pre ++ [(⟨xz,xs,xty,xlf,dA,dn,dc,gA,gn,gc,fA,fn,fc,pA,pn,pc⟩,cc)])=us):=jq (by rw[QI (by rintro⟨h1,_⟩;exact uy.out (FM.out.trans h1)),qp.out]);gi_wp2_with fail;refine⟨λk=>(k=Mb\/k=Mb+1+1)\/(Value.slice vA m vc).ownBlock=some k,RdStep.refl _ _,λk e=>.inl ((Ga.out k).2 (.inl e)),λk e=>kI.out k ((fJ.out k).2 e),.slice vA m vc,λk=>Iff.rfl,by rw[bO.out];exact sM.out,gE.out,by rw[bO.out];exact iw.out,sO.out⟩
      case pos=>
       obtain rfl:xs=q:=mR oO;have uy:=jq oO;clear oO;by_cases BF:xty=ty
       case neg=>
        have hne:(xty != ty)=true:=by simpa [bne] using BF
        have yf:(xty == ty)=false:=by simpa using BF
        have SR:=jq BF;clear BF;have bO:Hid (usP xs.data.toList ty (pre ++ [(⟨xz,xs,xty,xlf,dA,dn,dc,gA,gn,gc,fA,fn,fc,pA,pn,pc⟩,cc)])=us):=jq (by rw[QI (by rintro⟨_,h1⟩;exact SR.out (di.out.trans h1)),qp.out]);gi_wp2_with fail;refine⟨λk=>(k=Mb\/k=Mb+1+1)\/(Value.slice vA m vc).ownBlock=some k,RdStep.refl _ _,λk e=>.inl ((Ga.out k).2 (.inl e)),λk e=>kI.out k ((fJ.out k).2 e),.slice vA m vc,λk=>Iff.rfl,by rw[bO.out];exact sM.out,gE.out,by rw[bO.out];exact iw.out,sO.out⟩
       case pos=>
        obtain rfl:xty=ty:=BF;have nh:Hid ((⟨⟨xs.data.toList,xty,xlf,cc.signed.set.data⟩,cc.signed.sigs⟩:Np.Signed)=cc.signed):=jq (by rw[FM.out,di.out,xl.out]);have HAS:Hid (cc.signed.set.name=xs.data.toList/\cc.signed.set.type=xty):=jq ⟨FM.out.symm,di.out.symm⟩;gi_wp2_with fail;refine⟨trivial,rfl,?_⟩;refine (CallsIn.inRound l (callsIn_wide.2 (IK xs xty xlf _ _ cc.signed.set.data cc.signed.sigs W₂ kH.out (by rw[nh.out];exact om.out.1) Fn.out SG.out))).mono ?_;rw[nh.out];rintro e w7 ⟨rfl,hb⟩;have nN:=hb.size;replace d1:=(hb.cell (p:=⟨E,1,none⟩) wk).trans d1;replace d2:=(hb.cell (p:=⟨E,2,none⟩) wk).trans d2;replace d3:=(hb.cell (p:=⟨E,3,none⟩) wk).trans d3;replace d4:=(hb.cell (p:=⟨E,4,none⟩) wk).trans d4;replace d5:=(hb.cell (p:=⟨E,5,none⟩) wk).trans d5;have cr:=jq hb;have FJ:=jq (sM.out.keep hb sM.out.lt);have M6:=cD ot.out hb ot.out.lt;have Cu:=jq (cD gE.out hb gE.out.lt);have KM:=jq (iw.out.keep bH sj dH hb);have bm:=M6.cell;have bo:=Cu.out.cell;have zo:=Cu.out.frozen;obtain⟨key,mu⟩:=aCQ (Np.de cc.signed);have mX:=jq mu;rw[mu];have iV:=ED (P:=prog) w7 111 9 4 underlying111 underlying9 Mb _ FJ.out key (.bool false) (by kernel_rfl);clear hb mu M6 bq0 bq1;by_cases hin:cc.signed∈us
        case pos=>
         have dN:(Np.mJ us).lookup key=some (.bool true):=by rw[<-mX.out];exact Np.OP hin
         rw[dN] at iV;simp only[Option.getD_some] at iV;have bO:Hid (usP xs.data.toList xty (pre ++ [(⟨xz,xs,xty,xlf,dA,dn,dc,gA,gn,gc,fA,fn,fc,pA,pn,pc⟩,cc)])=us):=jq (by rw[atJ HAS.out (by rw[qp.out];exact hin),qp.out]);clear hin dN;gi_wp2_with fail;refine⟨λk=>(k=Mb\/k=Mb+1+1)\/(Value.slice vA m vc).ownBlock=some k,RdStep.of_below cr.out,λk e=>.inl ((Ga.out k).2 (.inl e)),λk e=>by have:=kI.out k ((fJ.out k).2 e);omega,.slice vA m vc,λk=>Iff.rfl,by rw[bO.out];exact FJ.out,Cu.out,by rw[bO.out];exact KM.out,sO.out.then_below cr.out⟩
        case neg=>
         have dN:(Np.mJ us).lookup key=none:=by rw[<-mX.out];exact Np.OO om.out.2 CB.out hin
         rw[dN] at iV;simp only[Option.getD_none] at iV;have bO:Hid (usP xs.data.toList xty (pre ++ [(⟨xz,xs,xty,xlf,dA,dn,dc,gA,gn,gc,fA,fn,fc,pA,pn,pc⟩,cc)])=us ++ [cc.signed]):=jq (by rw[atZ HAS.out (by rw[qp.out];exact hin),qp.out]);obtain⟨wU,qH,nH,cu⟩:=P1 (P:=prog) w7 111 9 4 underlying111 underlying9 Mb _ FJ.out key (.bool true) dN;have D7:wU.heap.size<=w7.heap.size:=Nat.le_of_eq cu.size;have aQZ:w7.heap.size<=wU.heap.size:=Nat.le_of_eq cu.size.symm;have ob:Hid (dj Mb (Np.mJ (us ++ [cc.signed])) wU):=jq (by rw[Np.YD,mX.out];exact nH);have fV:Hid (RdStep (λk=>S k\/k=E) W₂ wU):=jq ⟨cu.os.trans cr.out.os,cu.tape.trans cr.out.tape,cu.output.trans cr.out.output,by omega,λk hk mp=>(cu.block k (λe=>mp (.inl ((fJ.out k).2 (.inl (.inl e)))))).trans (cr.out.block k hk)⟩;have K1:Hid (RdStep (λk=>k=Mb\/k=Mb+1+1) w6 wU):=jq ((sO.out.then_below cr.out).trans (S':=λk=>k=Mb) ⟨cu.os,cu.tape,cu.output,by omega,λk _ mp=>cu.block k mp⟩ (λk e=>.inl (.inl e)));have wS:Hid (Boxed wU (Mb+1+1) 36 (.slice vA m vc)):=jq ((cu.block _ (by omega)).trans Cu.out);have Sk:Hid (bF bP 5 42 w6.heap.size (λk=>Mb<=k) wU (.slice vA m vc) us):=jq (KM.out.leaves bH sj dH ⟨cu.os,cu.tape,cu.output,by omega,λi hi Ir=>⟨Ir,cu.block i (by omega)⟩⟩ (λg hg=>⟨cu.block g (by have:=(ni.out g hg).1;omega),by have:=(ni.out g hg).1;omega⟩));have sF:Hid (Below Mb W₂ wU):=jq ((cr.out.aDQ).trans ⟨cu.os,cu.tape,cu.output,by omega,λk hk=>cu.block k (by omega)⟩);have At:E≠Mb:=by omega
         clear hin dN nH zo bo;have bo:=wS.out.cell;have zo:=wS.out.frozen;replace d1:=(iQ (a:=⟨E,1,none⟩) (cu.block E At)).trans d1;replace d2:=(iQ (a:=⟨E,2,none⟩) (cu.block E At)).trans d2;replace d3:=(iQ (a:=⟨E,3,none⟩) (cu.block E At)).trans d3;replace d4:=(iQ (a:=⟨E,4,none⟩) (cu.block E At)).trans d4;replace d5:=(iQ (a:=⟨E,5,none⟩) (cu.block E At)).trans d5;clear cu;obtain⟨w8,eZ⟩:=aCQ (wU.alloc (.cells #[.string xs,.int .i64 xty,.int .i64 xlf,.slice dA dn dc,.slice gA gn gc] 42));have dS:Below wU.heap.size wU w8:=by rw[<-eZ];exact (vQ _ _).alloc (bQ _) _
         have qL:w8.heap.size<=wU.heap.size+1:=by rw[<-eZ];simp
         have aQQ:wU.heap.size<w8.heap.size:=by rw[<-eZ];simp
         have fk:Hid (ek w8 wU.heap.size 0 [.string xs,.int .i64 xty,.int .i64 xlf,.slice dA dn dc,.slice gA gn gc]):=jq (zX _ _ rfl eZ.symm);have Sj:=jq (Sk.out.keep bH sj dH dS);have Ru:=jq (aEX wS.out dS);have ew:=jq dS;have SD:Hid (bP (bA w8 λk=>Mb<=k) w8.heap.size [.string xs,.int .i64 xty,.int .i64 xlf,.slice dA dn dc,.slice gA gn gc] cc.signed):=jq (by
          have dT:Below w4.heap.size w6 w8:=((K1.out.below (n:=w4.heap.size) (by omega) (λk e=>by omega)).trans (dS.aDQ));rw[<-nh.out];exact⟨xs,_,_,rfl,lA.out.short,(lA.out.data.keep cM dT).around cM dt (λk e=>by omega) (by omega),(lA.out.sigs.keep dD dT).around dD eu (λk e=>by omega) (by omega),rfl⟩)
         obtain⟨si,Xx,Xy,Xz,XA⟩:=info_parts Tryz.infoSignedP;clear dS;gi_wp2_with (first
          | (gi_at_builtin;refine ayZ rfl (by intro c h;cases h) (by rintro⟨_,_,h⟩;exact h) ?_;refine QS (R:=bP) (M:=λk=>Mb<=k) w8 rfl _ _ 36 rfl w6.heap.size 42 si (.agg #[.string ⟨#[]⟩,.int .i64 0,.int .i64 0,.slice none 0 0,.slice none 0 0]) 80 underlying36 Xx Xy Xz XA rfl (by decide) (.slice vA m vc) us rfl Sj.out (some ⟨wU.heap.size,0,none⟩) 1 [cc.signed] rfl (PR rfl SD.out fk.out) ajZ (by rw[HM.out];simp[maxLen];omega) (by rw[HM.out];simp;omega) (by omega) bH sj dH ?_;intro v9 w9 Iv DH MZ;obtain⟨A9,c9,rfl⟩:=Iv.formN (n:=m+1) (by rw[List.length_append,HM.out];rfl);have tN:=DH.size;have DB:=((DH.block (Mb+1+1) (by omega) (λe=>by have:=(ni.out _ e.symm).1;omega)).trans Ru.out);have Rv:Hid (Boxed w9 (Mb+1+1) 36 (.slice vA m vc)):=jq DB;have bo9:w9.cell? ⟨Mb+1+1,0,none⟩=some (.slice vA m vc):=Boxed.cell DB;have zo9:w9.frozen? ⟨Mb+1+1,0,none⟩=false:=Boxed.frozen DB;have H9:=jq (And.intro Iv (And.intro DH MZ));clear Iv DH MZ DB;refine ayY ?_))
         have Xw:∀ k,(Value.slice A9 (m+1) c9).ownBlock=some k->(Value.slice vA m vc).ownBlock=some k\/w8.heap.size=k:=λk e=>by
          rcases H9.out.2.2 with h | h
          ·exact .inl (h ▸ e)
          ·rw[h] at e;exact .inr (Option.some.inj e)
         have DN:∀ k,(Value.slice A9 (m+1) c9).ownBlock=some k->w6.heap.size<=k/\k<w9.heap.size:=λk e=>H9.out.1.lt k e;refine⟨λk=>(k=Mb\/k=Mb+1+1)\/(Value.slice A9 (m+1) c9).ownBlock=some k,((fV.out.then_below ew.out).grown H9.out.2.1 (λk e=>.inl (.inl ((fJ.out k).2 (.inr e))))).setCell (.inl (.inl ((fJ.out _).2 (.inl (.inr rfl))))) _,λk e=>?_,λk e=>?_,?_⟩
         ·rcases e with e | e
          ·exact .inl (.inl ((fJ.out _).2 (.inl e)))
          ·rcases Xw k e with e | e
           ·exact .inl (.inl ((fJ.out _).2 (.inr e)))
           ·right;omega
         ·simp[World.setCell];rcases e with e | e
          ·omega
          ·exact (DN k e).2
         ·have Vu:Hid (dj Mb (Np.mJ (us ++ [cc.signed])) w9):=jq ((ob.out.keep ew.out (by omega)).stays (H9.out.2.1.block Mb (by omega) (λe=>by have:=(ni.out _ e.symm).1;omega)));refine⟨_,λk=>Iff.rfl,by rw[bO.out];exact Vu.out.stays (wQ _ _ _ _ (by dsimp only;omega)),Boxed.set _ Rv.out,?_,(((K1.out.then_below ew.out).grown H9.out.2.1 (λk e=>.inr (ni.out k e).1)).setCell (.inl (.inr rfl)) _)⟩;rw[bO.out];have h1:=H9.out.1.sameM (M':=λk=>Mb<=k) (λk=>⟨λe=>e.elim id (λe=>by have:=(DN k e).1;omega),.inl⟩);exact h1.leaves bH sj dH (Leaves'.setCell _ _ (by dsimp only;omega) _) (λg hg=>⟨wQ _ _ _ _ (by dsimp only;have:=(DN g hg).1;omega),by have:=(DN g hg).1;omega⟩)
end
end Go.Proofs.YtfnopgdcaanaiaaGreatDoor
