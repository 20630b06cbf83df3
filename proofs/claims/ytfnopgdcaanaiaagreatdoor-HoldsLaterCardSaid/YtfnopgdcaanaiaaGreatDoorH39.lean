/- Parts of the proof. No condition. -/
import Derived.Test.YtfnopgdcaanaiaaGreatDoorH30
import Derived.Test.YtfnopgdcaanaiaaGreatDoorH35
import Derived.Test.YtfnopgdcaanaiaaGreatDoorH38
set_option linter.all false
set_option maxRecDepth 100000
set_option maxHeartbeats 8000000
namespace Go.Proofs.YtfnopgdcaanaiaaGreatDoor
open Go.Proofs.Tryz
section
open Go.RowKit Go.Shelf Go.MapKept
attribute [local go_sem] Oper.semAt_some CV.cells
def vE(z:ByteArray):Value->Value
 | .agg xs=>.agg (#[.string z]++xs ++ #[.slice none 0 0,.slice none 0 0])
 | _=>undef
def zq:Value->Value
 | .tuple xs=>xs.getD 0 undef
 | _=>undef
def Ch:Value->Value
 | .tuple xs=>xs.getD 1 undef
 | _=>undef
def dY(g n cap q:Nat)(fA:Option Addr)(fn fc cb:Nat)(xf xt:Int)(e12:Value)(e13:Value)(i:Nat):Value:=[.slice (some ⟨g,0,none⟩) n cap,.int .i64 (q:Nat),.slice (some ⟨g,0,none⟩) n cap,.int .i64 (q:Nat),.pointer (some ⟨g,q * 8,none⟩),.pointer (some ⟨g,q * 8+6,none⟩),.slice fA fn fc,.pointer (some ⟨cb,1,none⟩),.int .i64 xf,.pointer (some ⟨cb,2,none⟩),.int .i64 xt,.agg #[.int .i64 xf,.int .i64 xt],e12,e13,.pointer (some ⟨g,q * 8,none⟩),.pointer (some ⟨g,q * 8+6,none⟩),undef].getD i undef
def dR(i:Nat):Nat:=[62,63,64,65,66,67,68,69,70,71,72,73,74,75,76,77,0].getD i 0
def tN:List Nat:=[0,1,2,3,4,5,6,7,8,9,10,11,14,15,12,13].map dR
theorem ja:∀ i∈[0,1,2,3,4,5,6,7,8,9,10,11,14,15,12,13],dR i<101/\dR i∈tN:=by decide
theorem oM:∀ i∈[0,1,2,3,4,5,6,7,8,9,10,11,14,15,12,13],∀ j∈[0,1,2,3,4,5,6,7,8,9,10,11,14,15,12,13],j≠i->dR i≠dR j:=by decide
def gZ(oA:Option Addr)(m oc:Nat)(z ss:ByteArray)(sty slf:Int)(dA:Option Addr)(dn dc:Nat)(gA:Option Addr)(gn gc:Nat)(e3:Value)(e5:Value)(e6:Value)(i:Nat):Value:=[.slice oA m oc,.string z,.agg #[.string ss,.int .i64 sty,.int .i64 slf,.slice dA dn dc,.slice gA gn gc],e3,vE z e3,e5,e6,undef].getD i undef
def go(i:Nat):Nat:=[52,53,54,55,56,57,58,0].getD i 0
def zp:List Nat:=[0,1,2,4,3,5,6].map go
theorem mH:∀ i∈[0,1,2,4,3,5,6],go i<101/\go i∈zp:=by decide
theorem tM:∀ i∈[0,1,2,4,3,5,6],∀ j∈[0,1,2,4,3,5,6],j≠i->go i≠go j:=by decide
def l9(g n cap q:Nat)(fA:Option Addr)(fn fc:Nat)(e7:Value)(i:Nat):Value:=[.slice (some ⟨g,0,none⟩) n cap,.int .i64 (q:Nat),.slice (some ⟨g,0,none⟩) n cap,.int .i64 (q:Nat),.pointer (some ⟨g,q * 8,none⟩),.pointer (some ⟨g,q * 8+6,none⟩),.slice fA fn fc,e7,e7,zq e7,Ch e7,.pointer (some ⟨g,q * 8,none⟩),.pointer (some ⟨g,q * 8+6,none⟩),undef].getD i undef
def kK(i:Nat):Nat:=[87,88,89,90,91,92,93,94,86,95,96,97,98,0].getD i 0
def Gt:List Nat:=[0,1,2,3,4,5,6,8,9,10,11,12,7].map kK
theorem vD:∀ i∈[0,1,2,3,4,5,6,8,9,10,11,12,7],kK i<101/\kK i∈Gt:=by decide
theorem Cg:∀ i∈[0,1,2,3,4,5,6,8,9,10,11,12,7],∀ j∈[0,1,2,3,4,5,6,8,9,10,11,12,7],j≠i->kK i≠kK j:=by decide
def psP(PP:List (Np.Span×Np.Signed))(sp:Np.Span)(sets:List Np.Signed)(j:Nat):List (Np.Span×Np.Signed):=PP++(sets.take j).map λs=>(sp,s)
theorem Xp(PP:List (Np.Span×Np.Signed))(sp:Np.Span)(sets:List Np.Signed):psP PP sp sets 0=PP:=by simp[psP]
theorem Xl{PP:List (Np.Span×Np.Signed)}{sp:Np.Span}{sets:List Np.Signed}{j:Nat}(h:sets.length=j):psP PP sp sets j=PP++sets.map λs=>(sp,s):=by unfold psP;rw[kQ (by omega)]
theorem Xo{PP:List (Np.Span×Np.Signed)}{sp:Np.Span}{sets:List Np.Signed}{j:Nat}{x:Np.Signed}(h:sets[j]?=some x):psP PP sp sets (j+1)=psP PP sp sets j ++ [(sp,x)]:=by
 obtain⟨hl,he⟩:=cQ.1 h;unfold psP;rw[fQ hl,he,List.map_append,List.append_assoc];rfl
theorem Xn{PP:List (Np.Span×Np.Signed)}{sp:Np.Span}{sets:List Np.Signed}{j:Nat}{p:Np.Span×Np.Signed}(h:p∈psP PP sp sets j):p∈PP++sets.map λs=>(sp,s):=by
 rcases List.mem_append.1 h with h | h
 ·exact List.mem_append.2 (.inl h)
 ·obtain⟨s,hs,rfl⟩:=List.mem_map.1 h;exact List.mem_append.2 (.inr (List.mem_map.2 ⟨s,List.mem_of_mem_take hs,rfl⟩))
theorem Xm(PP:List (Np.Span×Np.Signed))(sp:Np.Span)(sets:List Np.Signed)(j:Nat):(psP PP sp sets j).length<=(PP++sets.map λs=>(sp,s)).length:=by
 unfold psP;simp only[List.length_append,List.length_map,List.length_take];omega
theorem Xk{a b:List (CV×Np.Copy)}(h:a <+: b):∃ c,((b.map (·.2)).flatMap Np.mG)=((a.map (·.2)).flatMap Np.mG)++c:=by
 obtain⟨c,rfl⟩:=h;exact⟨(c.map (·.2)).flatMap Np.mG,by rw[List.map_append,List.flatMap_append]⟩
def AG(w6:World)(bo bt bm:Nat)(zn:ByteArray)(pre:List (CV×Np.Copy))(S:Nat->Prop)(W:World):Prop:=
 ∃ (xs:List PT) (ov:Value) (M:Nat->Prop),S bo/\S bt/\S bm/\(∀ k,qG xs ov k->S k)/\(∀ k,S k->k=bo\/k=bt\/k=bm\/w6.heap.size<=k)/\(∀ k,¬ S k->M k)/\M bo/\M bt/\M bm/\
   Boxed W bo 52 ov/\Boxed W bt 4 (.bool (!pre.isEmpty))/\cA bm (Np.l5 (xs.map (·.1))) W/\PubR w6.heap.size M zn xs ov W/\xs.map (λx=>(x.1,x.2.1))=Np.dN ((pre.map (·.2)).flatMap Np.mG)/\RdStep (λk=>k=bo\/k=bt\/k=bm) w6 W
theorem MQ(w6:World)(bo bt bm:Nat)(zn:ByteArray):eY w6.heap.size (AG w6 bo bt bm zn):=by
 rintro pre S W W' ⟨xs,ov,M,h1,h2,h3,h4,h5,h6,m1,m2,m3,h7,h8,h9,uG,EH,qM⟩ aA;refine⟨xs,ov,M,h1,h2,h3,h4,h5,h6,m1,m2,m3,jr h7 aA h1,jr h8 aA h2,h9.stays (aA.keep bm h9.lt (.inr h3)),?_,EH,⟨aA.os.trans qM.os,aA.tape.trans qM.tape,aA.output.trans qM.output,yQ qM.size aA.size,λk hk tn=>(aA.keep k (lQ hk qM.size) (.inl hk)).trans (qM.keep k hk tn)⟩⟩;exact uG.leaves ⟨aA.os,aA.tape,aA.output,aA.size,λi hi hm=>⟨hm,aA.keep i hi (.inr (Classical.byContradiction λhs=>hm (h6 i hs)))⟩⟩ (λg hg=>⟨aA.keep g (uG.lt hg).2.1 (.inr (h4 g hg)),(uG.lt hg).2.2⟩)
theorem Xu{w6:World}{bo bt bm:Nat}{zn:ByteArray}{pre:List (CV×Np.Copy)}{S:Nat->Prop}{W W':World}(h:AG w6 bo bt bm zn pre S W)(hb:Below W.heap.size W W'):AG w6 bo bt bm zn pre S W':=by
 obtain⟨xs,ov,M,h1,h2,h3,h4,h5,h6,m1,m2,m3,h7,h8,h9,uG,EH,qM⟩:=h;exact⟨xs,ov,M,h1,h2,h3,h4,h5,h6,m1,m2,m3,cG h7 hb h7.lt,cG h8 hb h8.lt,h9.keep hb h9.lt,uG.keep hb,EH,qM.then_below hb⟩
theorem JE{w:World}{B:Nat}{L:List (CV×Np.Copy)}(h:∀ x∈L,CVOf w B x.1 x.2)(z:List UInt8):((L.filter λx=>x.1.str.data.toList == z).map (·.2)).flatMap Np.mG=Np.cV (L.map (·.2)) z:=by
 unfold Np.cV Np.sS;congr 1
 induction L with
 | nil=>rfl
 | cons x L ih=>
  have hx:=h x (by simp);have ih:=ih (λy hy=>h y (mQ _ hy));rw[List.map_cons,List.filter_cons,List.filter_cons,hx.apex];split
  ·rw[List.map_cons,ih]
  ·exact ih
theorem XC(e:List Value)(h:Np.Hist)(hf:Np.vW h)(Lz:Np.jo h)(z:ByteArray)(hz:z.size<=140737488355328)(hp:(Np.cV h.copies z.data.toList).length<=5000)(w:World)(hR:iH w w.heap.size)(hP:fx w)(hh:ed w w.heap.size e h) :
 Calls prog 61 #[.agg e.toArray,.string z] w λe w'=>((¬ Np.sL h z.data.toList/\e = .returned (.tuple #[.slice none 0 0,.int .i64 1]))\/(Np.sL h z.data.toList/\((¬ Np.uu h z.data.toList/\e = .returned (.tuple #[.slice none 0 0,.int .i64 4]))\/(Np.uu h z.data.toList/\∃ v',e = .returned (.tuple #[v',.int .i64 0])/\fR ii 8 0 w.heap.size w' v' (Np.pub h.copies z.data.toList)))))/\Below w.heap.size w w':=by
 have D0:=jq hh;obtain⟨hv,cv,s,dv,cN,rfl,bi,gX,h3,h4,h5,h6⟩:=hh;obtain⟨ty,eK⟩:∃ ty,h.anchor.type=ty:=⟨_,rfl⟩;obtain⟨life,Fx⟩:∃ life,h.anchor.life=life:=⟨_,rfl⟩;obtain⟨drift,Ky⟩:∃ drift,h.drift=drift:=⟨_,rfl⟩;obtain⟨stop,kG⟩:∃ stop,h.stop=stop:=⟨_,rfl⟩;have H3:=jq h3;have H4:=jq h4;have H5:=jq h5;have H6:=jq h6;have HS:=jq (And.intro bi gX);have lA:=jq hf;have cP:=jq kG;have fL:=jq (And.intro eK Fx);obtain⟨A1,c1,rfl,_,_⟩:=al h3;obtain⟨A2,c2,rfl,_,_⟩:=al h4;obtain⟨A3,c3,rfl,_,_⟩:=al h5;obtain⟨A4,c4,rfl,_,_⟩:=al h6;clear h3 h4 h5 h6 bi gX hf;obtain⟨n1,bl⟩:∃ n,h.hosts.length=n:=⟨_,rfl⟩;obtain⟨n2,bP⟩:∃ n,h.copies.length=n:=⟨_,rfl⟩;obtain⟨n3,dW⟩:∃ n,h.anchor.data.length=n:=⟨_,rfl⟩;obtain⟨n4,eT⟩:∃ n,h.hints.length=n:=⟨_,rfl⟩;rw[bl] at H3;rw[bP] at H4;rw[dW] at H5;rw[eT] at H6;rw[bl,bP,dW,eT,eK,Fx,Ky,kG] at D0 |-;have jO:=jq bP;clear bl bP dW eT eK Fx Ky kG;obtain⟨r,hr⟩:∃ r,Np.yes (Np.VHist h)=r:=⟨_,rfl⟩;have sF:=jq hr;clear hr;obtain⟨X,hX⟩:∃ X,w.heap.size=X:=⟨_,rfl⟩;obtain⟨W1,ap⟩:∃ W1,(((w.alloc (.cells #[.slice A1 n1 c1,.slice A2 n2 c2,.string s,.int .i64 ty,.int .i64 life,.slice A3 n3 c3,.slice A4 n4 c4,.int .i64 drift,.int .i64 stop] 29)).alloc (.cells #[.string z] 9)).alloc (.cells #[.slice none 0 0] 52)).alloc (.cells #[.int .i64 0] 37)=W1:=⟨_,rfl⟩;have aG:Below w.heap.size w W1:=by rw[<-ap];exact ((((vQ _ _).alloc (bQ _) _).alloc (by simp <;> omega) _).alloc (by simp <;> omega) _).alloc (by simp <;> omega) _
 have kJ:W1.heap.size=X+4:=by rw[<-ap,<-hX];simp
 have k0:W1.cell? ⟨X,0,none⟩=some (.slice A1 n1 c1):=by rw[<-ap,<-hX];simp[go_sem]
 have k1:W1.cell? ⟨X,1,none⟩=some (.slice A2 n2 c2):=by rw[<-ap,<-hX];simp[go_sem]
 have k2:W1.cell? ⟨X,2,none⟩=some (.string s):=by rw[<-ap,<-hX];simp[go_sem]
 have k3:W1.cell? ⟨X,3,none⟩=some (.int .i64 ty):=by rw[<-ap,<-hX];simp[go_sem]
 have k4:W1.cell? ⟨X,4,none⟩=some (.int .i64 life):=by rw[<-ap,<-hX];simp[go_sem]
 have k5:W1.cell? ⟨X,5,none⟩=some (.slice A3 n3 c3):=by rw[<-ap,<-hX];simp[go_sem]
 have k6:W1.cell? ⟨X,6,none⟩=some (.slice A4 n4 c4):=by rw[<-ap,<-hX];simp[go_sem]
 have k7:W1.cell? ⟨X,7,none⟩=some (.int .i64 drift):=by rw[<-ap,<-hX];simp[go_sem]
 have k8:W1.cell? ⟨X,8,none⟩=some (.int .i64 stop):=by rw[<-ap,<-hX];simp[go_sem]
 have kz:W1.cell? ⟨X+1,0,none⟩=some (.string z):=by rw[<-ap,<-hX];simp[go_sem]
 have HO:Hid (Boxed W1 (X+1+1) 52 (.slice none 0 0)):=jq (by
  rw[<-ap,<-hX]
  have:=(Boxed.new ((w.alloc (.cells #[.slice A1 n1 c1,.slice A2 n2 c2,.string s,.int .i64 ty,.int .i64 life,.slice A3 n3 c3,.slice A4 n4 c4,.int .i64 drift,.int .i64 stop] 29)).alloc (.cells #[.string z] 9)) 52 (.slice none 0 0)).alloc (.cells #[.int .i64 0] 37)
  simpa using this)
 have HE:Hid (Boxed W1 (X+1+1+1) 37 (.int .i64 0)):=jq (by
  rw[<-ap,<-hX]
  have:=Boxed.new (((w.alloc (.cells #[.slice A1 n1 c1,.slice A2 n2 c2,.string s,.int .i64 ty,.int .i64 life,.slice A3 n3 c3,.slice A4 n4 c4,.int .i64 drift,.int .i64 stop] 29)).alloc (.cells #[.string z] 9)).alloc (.cells #[.slice none 0 0] 52)) 37 (.int .i64 0)
  simpa using this)
 have gv:=jq hR;have mi:=jq hP;have D5:=jq Lz;have sw:=jq hp;have wz:Hid (1<w.heap.size):=jq hP.lt;rw[hX] at aG H3 H4 H5 H6 D0 gv wz |-;have aP:=jq aG;clear aG hR hP Lz hp;refine (callsIn_wide (n:=0)).1 ?_;refine callsIn_of_wp_marks func61 rfl trivial ?_ rfl;simp only[ntmps61,List.size_toArray,List.length_cons,List.length_nil,Nat.reduceAdd,Nat.reduceSub,Array.replicate_succ,Array.replicate_zero,List.push_toArray,List.append_toArray,List.nil_append,List.cons_append];gi_wp2_with fail;refine⟨trivial,rfl,?_⟩;refine (callsIn_wide.2 (KN _ h lA.out W1 ((gv.out.keep aP.out).more (by omega)) (kg _ _ _ _ _ (kf _ _ _ _ _ D0.out aP.out) (by omega)))).mono ?_;rw[sF.out];rintro e w2 ⟨rfl,ac⟩;have aJ:=ac.size;have m0:=(cl ac (by omega)).trans k0;have m1:=(cl ac (by omega)).trans k1;have m2:=(cl ac (by omega)).trans k2;have m3:=(cl ac (by omega)).trans k3;have m4:=(cl ac (by omega)).trans k4;have m5:=(cl ac (by omega)).trans k5;have m6:=(cl ac (by omega)).trans k6;have m7:=(cl ac (by omega)).trans k7;have m8:=(cl ac (by omega)).trans k8;have mz:=(cl ac (by omega)).trans kz;have dG:Hid (Boxed w2 (X+1+1) 52 (.slice none 0 0)):=jq (cG HO.out ac (by omega));have rX:Hid (Boxed w2 (X+1+1+1) 37 (.int .i64 0)):=jq (cG HE.out ac (by omega));have aj:=jq (aP.out.trans (ac.mono (by omega)));clear ac ap hX k0 k1 k2 k3 k4 k5 k6 k7 k8 kz
 cases r with
 | false=>
  have HN:Hid (¬ Np.VHist h):=jq (λh=>by have:=Np.bB h;rw[sF.out] at this;cases this);have y0:=dG.out.cell;have y1:=dG.out.frozen;have z0:=rX.out.cell;have z1:=rX.out.frozen;gi_wp2_with fail;refine⟨trivial,?_⟩;gi_wp2_with fail;obtain⟨W,hW⟩:∃ W,((w2.setCell ⟨X+1+1,0,none⟩ (.slice none 0 0)).setCell ⟨X+1+1+1,0,none⟩ (.int .i64 1))=W:=⟨_,rfl⟩;have Da:Hid (Below X w W):=jq (by rw[<-hW];exact ((aj.out.setCell (p:=⟨X+1+1,0,none⟩) (by dsimp only;omega) _).setCell (p:=⟨X+1+1+1,0,none⟩) (by dsimp only;omega) _));have e0:W.cell? ⟨X+1+1,0,none⟩=some (.slice none 0 0):=by rw[<-hW];simp[go_sem,y0]
  have e1:W.cell? ⟨X+1+1+1,0,none⟩=some (.int .i64 1):=by rw[<-hW];simp[go_sem,z0]
  rw[hW];exact mu (v:=.tuple #[.slice none 0 0,.int .i64 1]) (by simp[results,results61,go_sem,e0,e1]) ⟨.inl ⟨λh=>HN.out h.1,rfl⟩,Da.out⟩
 | true=>
  have HV:Hid (Np.VHist h):=jq (Np.ew.1 sF.out);gi_wp2_with fail;refine⟨trivial,rfl,?_⟩;refine (callsIn_wide.2 (nameValid_any z hz _)).mono ?_;rintro e w3 ⟨rfl,ak⟩;have el:=ak.size;replace m0:=(cl ak (by omega)).trans m0;replace m1:=(cl ak (by omega)).trans m1;replace m2:=(cl ak (by omega)).trans m2;replace m3:=(cl ak (by omega)).trans m3;replace m4:=(cl ak (by omega)).trans m4;replace m5:=(cl ak (by omega)).trans m5;replace m6:=(cl ak (by omega)).trans m6;replace m7:=(cl ak (by omega)).trans m7;replace m8:=(cl ak (by omega)).trans m8;replace mz:=(cl ak (by omega)).trans mz;have gh:Hid (Boxed w3 (X+1+1) 52 (.slice none 0 0)):=jq (cG dG.out ak (by omega));have Df:Hid (Boxed w3 (X+1+1+1) 37 (.int .i64 0)):=jq (cG rX.out ak (by omega));have ar:=jq (aj.out.trans (ak.mono (by omega)));clear ak
  cases fm:Np.aC z.data.toList with
  | false=>
   have kV:=jq fm;clear fm;have y0:=gh.out.cell;have y1:=gh.out.frozen;have z0:=Df.out.cell;have z1:=Df.out.frozen;gi_wp2_with fail;obtain⟨W,hW⟩:∃ W,((w3.setCell ⟨X+1+1,0,none⟩ (.slice none 0 0)).setCell ⟨X+1+1+1,0,none⟩ (.int .i64 1))=W:=⟨_,rfl⟩;have Da:Hid (Below X w W):=jq (by rw[<-hW];exact ((ar.out.setCell (p:=⟨X+1+1,0,none⟩) (by dsimp only;omega) _).setCell (p:=⟨X+1+1+1,0,none⟩) (by dsimp only;omega) _));have e0:W.cell? ⟨X+1+1,0,none⟩=some (.slice none 0 0):=by rw[<-hW];simp[go_sem,y0]
   have e1:W.cell? ⟨X+1+1+1,0,none⟩=some (.int .i64 1):=by rw[<-hW];simp[go_sem,z0]
   rw[hW];exact mu (v:=.tuple #[.slice none 0 0,.int .i64 1]) (by simp[results,results61,go_sem,e0,e1]) ⟨.inl ⟨λh=>absurd h.2 (by rw[kV.out];simp),rfl⟩,Da.out⟩
  | true=>
   have kV:=jq fm;have bk:Hid (Np.sL h z.data.toList):=jq ⟨HV.out,fm⟩;clear fm;have hX4:X+4<=w3.heap.size:=by omega
   have nF:∀ (w:World),(Instr.makeMap 213 none).run prog w = .ok (.map (some w.heap.size)) (w.alloc (.map #[] 0)):=λw=>by
    simp[Instr.makeMap,Result.andThen]
   obtain⟨Bh,xS⟩:∃ Bh,w3.heap.size=Bh:=⟨_,rfl⟩;obtain⟨w4,bA⟩:∃ w4,(((w3.alloc (.cells #[.slice none 0 0] 52)).alloc (.cells #[.bool false] 4)).alloc (.map #[] 0)).alloc (.cells #[.map (some (Bh+1+1))] 213)=w4:=⟨_,rfl⟩;have av:Below w3.heap.size w3 w4:=by rw[<-bA];exact ((((vQ _ _).alloc (bQ _) _).alloc (by simp) _).alloc (by simp <;> omega) _).alloc (by simp <;> omega) _
   have em:w4.heap.size=Bh+4:=by rw[<-bA,<-xS];simp
   have v0:=(cl av (by omega)).trans m0;have v1:=(cl av (by omega)).trans m1;have v2:=(cl av (by omega)).trans m2;have v3:=(cl av (by omega)).trans m3;have v4:=(cl av (by omega)).trans m4;have v5:=(cl av (by omega)).trans m5;have v6:=(cl av (by omega)).trans m6;have v7:=(cl av (by omega)).trans m7;have v8:=(cl av (by omega)).trans m8;have vz:=(cl av (by omega)).trans mz;have An:Hid (Boxed w4 (X+1+1) 52 (.slice none 0 0)):=jq (cG gh.out av (by omega));have Po:Hid (Boxed w4 (X+1+1+1) 37 (.int .i64 0)):=jq (cG Df.out av (by omega));have ba:=jq (ar.out.trans (av.mono (by omega)));have OW:Hid (Boxed w4 Bh 52 (.slice none 0 0)):=jq (by
    rw[<-bA,<-xS];exact (((Boxed.new w3 52 (.slice none 0 0)).alloc _).alloc _).alloc _)
   have OY:Hid (Boxed w4 (Bh+1) 4 (.bool false)):=jq (by
    rw[<-bA,<-xS]
    have:=((Boxed.new (w3.alloc (.cells #[.slice none 0 0] 52)) 4 (.bool false)).alloc (.map #[] 0)).alloc (.cells #[.map (some (w3.heap.size+1+1))] 213)
    simpa using this)
   have OT:Hid (cA (Bh+1+1) [] w4):=jq (by
    rw[<-bA,<-xS]
    have:=(cA.made ((w3.alloc (.cells #[.slice none 0 0] 52)).alloc (.cells #[.bool false] 4))).stays (w':=((((w3.alloc (.cells #[.slice none 0 0] 52)).alloc (.cells #[.bool false] 4)).alloc (.map #[] 0)).alloc (.cells #[.map (some (w3.heap.size+1+1))] 213))) (Below.heap_alloc _ _ _ (by simp))
    simpa using this)
   have zO:Hid (Boxed w4 (Bh+1+1+1) 213 (.map (some (Bh+1+1)))):=jq (by
    rw[<-bA,<-xS]
    have:=Boxed.new (((w3.alloc (.cells #[.slice none 0 0] 52)).alloc (.cells #[.bool false] 4)).alloc (.map #[] 0)) 213 (.map (some (w3.heap.size+1+1)))
    simpa using this)
   clear m0 m1 m2 m3 m4 m5 m6 m7 m8 mz;gi_wp2_with fail;clear nF av;refine⟨trivial,rfl,?_⟩;refine (callsIn_wide.2 (RN _ _ _ _ _ _ _ _ _ 138 #[.pointer (some ⟨X+1,0,none⟩)] w4)).mono ?_;rintro e w6 ⟨rfl,cg⟩;have gm:w6.heap.size=Bh+6:=by rw[cg];simp;omega
   have aT:Below w4.heap.size w4 w6:=by rw[cg];exact ((vQ _ _).alloc (bQ _) _).alloc (by simp) _
   have kX:w6.cell? ⟨Bh+4,1,none⟩=some (.slice A2 n2 c2):=by rw[cg,<-em];simp[go_sem]
   have kO:w6.cell? ⟨Bh+4+1,0,none⟩=some (.func (.func 138) #[] #[.pointer (some ⟨X+1,0,none⟩)]):=by rw[cg,show Bh+4+1=w4.heap.size+1 by omega];simp[go_sem]
   rw[em];obtain⟨L,iL,nr,s5⟩:=R1 (H4.out.keep g8 (ba.out.trans (aT.mono (by omega))));have qx:=jq ((cl aT (by omega)).trans vz);have wH:=jq (RO L (λx=>x.1.str.data.toList == z.data.toList) 138 #[.pointer (some ⟨X+1,0,none⟩)] (Bh+4) (Bh+4+1) n2 c2 (λk=>k<w6.heap.size/\¬ (k=Bh\/k=Bh+1\/k=Bh+1+1)) A2 w6 ⟨by omega,by omega⟩ ⟨by omega,by omega⟩ kX kO nr (by have:=lA.out.1;have:=jO.out;omega)
    (λi x hx=>by
      obtain⟨_,b,o,h1,h2,h3⟩:=s5 i x hx;exact⟨b,o,h1,⟨by omega,by omega⟩,h3⟩) Sc
    (λx hx W hW=>by
      have h1:=(hW.cell (p:=⟨X+1,0,none⟩) ⟨by dsimp only;omega,by dsimp only;omega⟩).trans qx.out
      have:=hW.1
      exact Xq x.1.host x.1.frm x.1.til x.1.str _ x.1.A x.1.n x.1.c rfl (X+1) z W (by omega) h1))
   have pd:Hid (Boxed w6 (X+1+1) 52 (.slice none 0 0)):=jq (cG An.out aT (by omega));have Pq:Hid (Boxed w6 (X+1+1+1) 37 (.int .i64 0)):=jq (cG Po.out aT (by omega));have OX:Hid (Boxed w6 Bh 52 (.slice none 0 0)):=jq (cG OW.out aT (by omega));have OZ:Hid (Boxed w6 (Bh+1) 4 (.bool false)):=jq (cG OY.out aT (by omega));have OU:Hid (cA (Bh+1+1) [] w6):=jq (OT.out.keep aT (by omega));have O2:Hid (Boxed w6 (Bh+1+1+1) 213 (.map (some (Bh+1+1)))):=jq (cG zO.out aT (by omega));have dg:=jq (ba.out.trans (aT.mono (by omega)));have mW:=jq iL;have km:Hid (∀ x∈L,CVOf w6 X x.1 x.2):=jq (λx hx=>by obtain⟨i,hi⟩:=List.mem_iff_getElem?.1 hx;exact (s5 i x hi).1);clear aT cg bA kX kO iL s5 v0 v1 v2 v3 v4 v5 v6 v7 v8 vz;have I5:=jq gm;gi_wp2_with fail;refine GZ (Dr:=λk=>k<w6.heap.size/\¬ (k=Bh\/k=Bh+1\/k=Bh+1+1)) (w0:=w6) (first:=#[]) (captured:=#[.pointer (some ⟨Bh+4,0,none⟩),.pointer (some ⟨Bh+4+1,0,none⟩)]) (gf:=141) rfl R8 (mk:=λy=>#[y,.pointer (some ⟨Bh+4,0,none⟩),.pointer (some ⟨Bh+4+1,0,none⟩)]) (λ_=>rfl)
    wH.out (dH.refl λk e=>e.1) (λ_=>rfl) (AG w6 Bh (Bh+1) (Bh+1+1) z) (λ_ _ _ _=>False)
    (MQ _ _ _ _ _) (λc s S W W' h _=>h)
    (λk=>k=Bh\/k=Bh+1\/k=Bh+1+1) (λk h1 h2=>h2.2 h1) (by intro k h;omega)
    ⟨[],.slice none 0 0,λk=>k=Bh\/k=Bh+1\/k=Bh+1+1\/¬ (k=Bh\/k=Bh+1\/k=Bh+1+1),.inl rfl,.inr (.inl rfl),.inr (.inr rfl),(λk e=>by rcases e with e | ⟨x,hx,_⟩;cases e;cases hx),(λk e=>by omega),(λk e=>.inr (.inr (.inr e))),.inl rfl,.inr (.inl rfl),.inr (.inr (.inl rfl)),OX.out,OZ.out,OU.out,PubR.nil _ _ _ _,rfl,RdStep.refl _ _⟩ ?round ?done ?stop
   case stop=>
    rintro D c pre S W hD fX aV fD h hK;exact h.elim
   case done=>
    rintro D S W hD fX aV ⟨us,ov,M,Bo,x7,Bn,hown,x6,xY,mbo,mbt,mbm,qU,py,qS,uJ,ve,aN⟩ hK;obtain⟨te,FT⟩:∃ te,(L.filter λx=>x.1.str.data.toList == z.data.toList).isEmpty=te:=⟨_,rfl⟩;have H0:Hid (Np.uu h z.data.toList↔te=false):=jq (by
     rw[<-FT,List.isEmpty_eq_false_iff_exists_mem];constructor
     ·rintro⟨c,hc,hz⟩;rw[<-mW.out] at hc;obtain⟨x,hx,rfl⟩:=List.mem_map.1 hc;exact⟨x,List.mem_filter.2 ⟨hx,by rw[(km.out x hx).apex,hz];simp⟩⟩
     ·rintro⟨x,hx⟩;obtain⟨h1,h2⟩:=List.mem_filter.1 hx;refine⟨x.2,by rw[<-mW.out];exact List.mem_map.2 ⟨x,h1,rfl⟩,?_⟩;rw[<-(km.out x h1).apex];simpa using h2)
    rw[FT] at py;have kn:Hid (us.map (λx=>(x.1,x.2.1))=Np.dN (Np.cV h.copies z.data.toList)):=jq (by rw[ve,JE km.out,mW.out]);have uK:=aN.size;have Hr:Hid (D<W.heap.size):=jq (eQ.1 hK).1;have uH:Below X w6 W:=aN.below (by omega) (λk e=>by omega);have Hl:Hid (Below X w W):=jq (dg.out.trans (uH.mono (by omega)));have gu:Hid (Boxed W (X+1+1) 52 (.slice none 0 0)):=jq ((aN.keep (X+1+1) (by omega) (by omega)).trans pd.out);have ue:Hid (Boxed W (X+1+1+1) 37 (.int .i64 0)):=jq ((aN.keep (X+1+1+1) (by omega) (by omega)).trans Pq.out);have C2:=jq qU;have uo:=jq fX;have eP:=jq x6;have Ie:=jq hK;have DQ:=jq (PubK.start uJ xY hown);have t0:=py.cell;clear FT ve aN uH qU py qS uJ xY hown x6 fX hK mbo mbt mbm Bo x7 Bn aV;have Br:X+1+1≠D:=by omega
    have Bg:X+1+1+1≠D:=by omega
    cases te with
    | true=>
     simp only[Bool.not_true] at t0;have o0:=gu.out.cell;have o1:=gu.out.frozen;have q0:=ue.out.cell;have q1:=ue.out.frozen;gi_wp2_with fail;obtain⟨W',hW'⟩:∃ W',((W.setCell ⟨X+1+1,0,none⟩ (.slice none 0 0)).setCell ⟨X+1+1+1,0,none⟩ (.int .i64 4))=W':=⟨_,rfl⟩;have B4:W'.heap.size=W.heap.size:=by rw[<-hW'];simp
     have BE:∀ k,k≠X+1+1->k≠X+1+1+1->W'.heap[k]?=W.heap[k]?:=λk h1 h2=>by rw[<-hW'];exact (wQ _ _ _ k h2).trans (wQ _ _ _ k h1)
     have EJ:Below X w W':=by rw[<-hW'];exact ((Hl.out.setCell (p:=⟨X+1+1,0,none⟩) (by dsimp only;omega) _).setCell (p:=⟨X+1+1+1,0,none⟩) (by dsimp only;omega) _)
     have rq:W'.os=W.os/\W'.tape=W.tape/\W'.output=W.output:=by rw[<-hW'];simp[World.setCell]
     have ES:W'.heap[D]?=some (.deferred (some [])):=(BE D (Ne.symm Br) (Ne.symm Bg)).trans Ie.out;have e0:W'.cell? ⟨X+1+1,0,none⟩=some (.slice none 0 0):=by rw[<-hW'];simp[go_sem,o0]
     have e1:W'.cell? ⟨X+1+1+1,0,none⟩=some (.int .i64 4):=by rw[<-hW'];simp[go_sem,q0]
     have f0:=(iQ (w:=W') (w':=W'.putObj D (.deferred none)) (a:=⟨X+1+1,0,none⟩) (zQ Br)).trans e0;have f1:=(iQ (w:=W') (w':=W'.putObj D (.deferred none)) (a:=⟨X+1+1+1,0,none⟩) (zQ Bg)).trans e1;rw[hW'];refine nj ES (v:=.tuple #[.slice none 0 0,.int .i64 4]) (by simp[results,results61,go_sem,f0,f1]) ⟨.inr ⟨bk.out,.inl ⟨(λh=>by have:=H0.out.1 h;cases this),rfl⟩⟩,ni EJ (by omega) _⟩
    | false=>
     simp only[Bool.not_false] at t0;obtain⟨n,hn⟩:∃ n,us.length=n:=⟨_,rfl⟩;obtain⟨oA,oc,rfl⟩:=DQ.out.rows.row.formN hn;have Iq:=jq hn;have b0:=C2.out.cell;obtain⟨PS,Bj⟩:∃ PS,Np.cV h.copies z.data.toList=PS:=⟨_,rfl⟩;have mZ:=jq Bj;rw[Bj] at kn;have Im:Hid ((Np.dN PS).length=n):=jq (by rw[<-kn.out,List.length_map];exact hn);have FB:n<=5000:=by rw[<-hn];have h1:=Mu kn.out;have h2:=sw.out;rw[Bj] at h2;omega
     clear hn Bj;gi_wp2_with fail;gi_loopw [83] (λI wr=>∃ (i:Nat) (us':List PT) (ov':Value) (M':Nat->Prop),i<=n/\I = .int .i64 i/\W.heap.size<=wr.heap.size/\Hid (us'.length=n)/\Hid (Boxed wr Bh 52 ov')/\Hid (PubK S W w6.heap.size z M' us' ov' wr)/\Hid (us'.map (λx=>(x.1,x.2.1))=oK (Np.dN PS) i)) (λI _=>n - (intOf I).toNat)
     case atStart=>exact⟨0,us,_,_,jQ _,rfl,bQ _,Iq,C2,DQ,jq (by rw[WT];exact kn.out)⟩
     case round=>
      clear C2 DQ kn Iq b0 t0;obtain⟨i,us',ov',M',hi,rfl,VG,ul,t8,fT,DF⟩:=hrel;by_cases aa:i<n
      ·obtain⟨g,cap,rfl,dm,Fp,tf⟩:=fT.out.rows.row.formSome ul.out (by omega);have Ia:Hid (i<(Np.dN PS).length):=jq (by rw[Im.out];exact aa);obtain⟨⟨xs,xt,xv⟩,hx,hl⟩:=MB DF.out Ia.out;dsimp only at hl;have tC:=Np.Mv hl;have rp:aK w6.heap.size wr xv xt:=fT.out.rows.fresh _ (gQ hx);have Hw:Hid (SlR dU 2 wr wr.heap.size xv xt):=jq (rp.slr (by have h1:=Np.GN PS xs;rw[<-tC] at h1;have h2:=sw.out;rw[mZ.out] at h2;omega));have Qq:Hid (∀ s∈xt,Np.xy s):=jq (λs hs=>Np.Xz (h:=h) (zone:=z.data.toList) (s:=xs) (by rw[mZ.out,<-tC];exact hs) HV.out);have Qv:Hid (xt.length<=20000):=jq (by have h1:=Np.GN PS xs;rw[<-tC] at h1;have h2:=sw.out;rw[mZ.out] at h2;omega);have HX:=jq hx;obtain⟨fA,fc,rfl⟩:=aK.form rp;have f6:wr.cell? ⟨g,i * 8+6,none⟩=some (.slice fA xt.length fc):=Fo fT.out.rows.row hx;obtain⟨fn,im⟩:∃ fn,xt.length=fn:=⟨_,rfl⟩;rw[im] at f6 HX Hw;have b6:=t8.out.cell;have nJ:(0:Int)<=(i:Int):=by omega
       have jD:(i:Int)<(n:Int):=by omega
       clear hx hl tC rp im tf;gi_wp2_with fail;refine CI λa0 fh=>?_;have rP:=jq fh;have iy:=jq (show a0.eval (.tmp 6) = .pointer (some ⟨Bh,0,none⟩) by rw[fh];rfl);have G8:=jq (show a0.eval (.tmp 15) = .int .i64 (i:Nat) by rw[fh];rfl);have HM:=jq (show a0.tmps.size=101 by rw[fh];rfl);clear fh;refine wpIn_wide.2 (wp_region_any (by kernel_rfl) ?_);refine Om (w:=wr.drew) (D:=[0,1,2,3,4,5,6,11,12]) (A:=[]) (p:=7) (dst:=kK) (val:=l9 g n cap i fA fn fc undef) (m:=101)
        (base:=jc a0 101 Gt) (GW (by kernel_rfl)) (by simp) (by simp) (mM (by kernel_rfl)) ?_
        (λi hi=>(vD i (by simp at hi |-;omega)).1) (λi hi j hj=>Cg i (by simp at hi |-;omega) j (by simp at hj |-;omega)) (λi hi=>gM (vD i (by simp at hi |-;omega)).2) ?_ ?_ _ _ _ (Held.start (λq hq=>Cq q hq) HM.out)
       ·intro i hi bC;simp only[List.mem_cons,Qh,or_false] at hi;rcases hi with rfl | rfl | rfl | rfl | rfl | rfl | rfl | rfl | rfl
        all_goals first | (exfalso;simp at bC;done) | exact⟨_,rfl,rfl⟩
       ·intro i hi bC o ho a' hb cM;have k6':=(cR hb (j:=6) (by decide) (by decide)).trans iy.out;have k15':=(cR hb (j:=15) (by decide) (by decide)).trans G8.out;simp[Act.eval] at k6' k15';simp only[List.mem_cons,Qh,or_false] at hi;rcases hi with rfl | rfl | rfl | rfl | rfl | rfl | rfl | rfl | rfl
        all_goals first
         | (exfalso;simp at bC;done)
         | (cases ho
            try simp[Act.eval,Region.binds,l9,kK] at cM
            refine .inl ⟨by simp[Region.wanted],λw' hw'=>?_⟩;subst hw';simp[Oper.quietAt,Oper.quietUpon,execOp,go_sem,l9,k6',k15',b6,f6,nJ,jD,zq,Ch,cM])
       ·intro f listed a' hH hr;obtain⟨_,o,ho,aH⟩:=mem_ready.1 hr
        cases ho
        have hG:=hH.good;have hval:=λi hi hl=>hG.val i hi hl;have eJ:∀ k,({ on:=k,ground:=.data } : Edge)∈_->listed.getD k false=true:=λk hk=>aH _ hk rfl;have av6:=hval 6 (by simp) (eJ 6 (by simp));simp[Act.eval,l9,kK] at av6;simp only[wpOp];simp[Region.wanted];refine .inl ?_;simp[Oper.wp,go_sem,av6];refine (Mz _ xt Qv.out Qq.out wr.drew (Hw.out.keep iw (vQ wr.heap.size wr).drew)).mono ?_;rintro e wC ⟨v2,rfl,kD,yg⟩;have iN:Below wr.heap.size wr wC:=(vQ wr.heap.size wr).drew.trans yg;have VC:=iN.size;replace b6:=(cl iN (by omega)).trans b6;replace f6:=(cl iN (by omega)).trans f6;have q9:=(World.frozen?_of_block (a:=⟨g,i * 8+6,none⟩) (iN.block g (by omega))).trans (fT.out.rows.row.frozenAt ul.out _);obtain⟨gA,gc,rfl⟩:=aK.form kD;obtain⟨gn,j5⟩:∃ n,(Np.f9 xt).length=n:=⟨_,rfl⟩;rw[j5] at kD |-;have dG:=jq kD;have fH:=jq iN;clear kD iN yg j5;dsimp only;refine Om (w:=wC) (D:=[0,1,2,3,4,5,6,8,9,10,11,12,7]) (A:=[7]) (p:=13) (dst:=kK) (val:=l9 g n cap i fA fn fc (.tuple #[.slice gA gn gc,.int .i64 0])) (m:=101)
         (base:=jc a0 101 Gt) (GW (by kernel_rfl)) (by simp) (by simp) (mM (by kernel_rfl)) ?_
         (λi hi=>(vD i (by simp at hi |-;omega)).1) (λi hi j hj=>Cg i (by simp at hi |-;omega) j (by simp at hj |-;omega)) (λi hi=>gM (vD i (by simp at hi |-;omega)).2) ?_ ?_ _ _ _ (hH.act (D':=[0,1,2,3,4,5,6,8,9,10,11,12,7]) (val':=l9 g n cap i fA fn fc (.tuple #[.slice gA gn gc,.int .i64 0])) hr (by simp) (λi hi=>by simp at hi |-;omega) (λi hi=>by simp at hi;rcases hi with rfl | rfl | rfl | rfl | rfl | rfl | rfl | rfl | rfl <;> rfl) rfl (by simp[kK]) (λj hj=>Cg 7 (by simp) j (by simp at hj |-;omega) (by rintro rfl;simp at hj)) (gM (vD 7 (by simp)).2) (by simp))
        ·intro i hi bC;simp only[List.mem_cons,Qh,or_false] at hi;rcases hi with rfl | rfl | rfl | rfl | rfl | rfl | rfl | rfl | rfl | rfl | rfl | rfl | rfl
         all_goals first | (exfalso;simp at bC;done) | exact⟨_,rfl,rfl⟩
        ·intro i hi bC o ho a' hb cM;have k6':=(cR hb (j:=6) (by decide) (by decide)).trans iy.out;have k15':=(cR hb (j:=15) (by decide) (by decide)).trans G8.out;simp[Act.eval] at k6' k15';simp only[List.mem_cons,Qh,or_false] at hi;rcases hi with rfl | rfl | rfl | rfl | rfl | rfl | rfl | rfl | rfl | rfl | rfl | rfl | rfl
         all_goals first
          | (exfalso;simp at bC;done)
          | (cases ho
             try simp[Act.eval,Region.binds,l9,kK] at cM
             refine .inl ⟨by simp[Region.wanted],λw' hw'=>?_⟩;subst hw';simp[Oper.quietAt,Oper.quietUpon,execOp,go_sem,l9,k6',k15',b6,f6,nJ,jD,zq,Ch,cM])
        ·intro f listed a' hH hr;obtain⟨_,o,ho,aH⟩:=mem_ready.1 hr
         cases ho
         have hG:=hH.good;have hval:=λi hi hl=>hG.val i hi hl;have eJ:∀ k,({ on:=k,ground:=.data } : Edge)∈_->listed.getD k false=true:=λk hk=>aH _ hk rfl;have av9:=hval 9 (by simp) (eJ 9 (by simp));have av12:=hval 12 (by simp) (eJ 12 (by simp));simp[Act.eval,l9,kK,zq] at av9 av12;simp only[wpOp];simp[Region.wanted];refine .inl ?_;simp[Oper.wp,execOp,go_sem,av9,av12,f6,q9];clear b6 f6 q9;obtain⟨W',hW'⟩:∃ W',wC.setCell ⟨g,i * 8+6,none⟩ (.slice gA gn gc)=W':=⟨_,rfl⟩;have Ic:=jq (fT.out.normed ul.out HX.out (ps':=Np.f9 xt) fH.out dG.out (by have:=fT.out.rd.size;omega));rw[hW'] at Ic |-;have eF:Below w6.heap.size wr W':=by rw[<-hW'];exact (fH.out.mono (by have:=fT.out.rd.size;omega)).setCell (by dsimp only;omega) _
         have qp:Hid (Boxed W' Bh 52 (.slice (some ⟨g,0,none⟩) n cap)):=jq (cG t8.out eF (by omega));clear eF;have B3:W'.heap.size=wC.heap.size:=by rw[<-hW'];simp[World.setCell]
         refine ZR (R:=[10]) (D:=[0,1,2,3,4,5,6,8,9,10,11,12,7]) (dst:=kK) (val:=l9 g n cap i fA fn fc (.tuple #[.slice gA gn gc,.int .i64 0])) (a0:=a0) (m:=101) HM.out (GW (by kernel_rfl)) (by simp) (λi hi=>?_) (λi hi=>by simp at hi;subst hi;exact⟨_,rfl,rfl⟩) (λi hi=>(vD i hi).1) Cg (λi hi o ho e he hb=>?_) (λi hi o ho a' cM=>?_) ?_ _ _ _ (hH.rest hr (by simp) (by kernel_rfl))
         ·simp at hi |-;omega
         ·simp at hi;subst hi
          cases ho
          simp at he;rcases he with rfl | rfl
          ·simp
          ·simp[Region.binds] at hb
         ·simp at hi;subst hi
          cases ho
          simp[Act.eval,Region.binds,l9,kK] at cM;refine .inl ⟨by simp[Region.wanted],λw' hw'=>?_⟩;subst hw';simp[Oper.quietAt,Oper.quietUpon,execOp,go_sem,l9,zq,Ch,cM]
         ·rw[rP.out];simp[oO,Act.put,l9,kK];clear hval eJ aH hG hH;gi_wp2_with fail;go_roundw
          case measure=>simp[intOf] <;> omega
          case rel=>exact⟨i+1,_,_,_,by omega,by go_num,by omega,jq (by rw[List.length_set];exact ul.out),qp,Ic,jq (WS DF.out Ia.out HX.out _)⟩
      ·obtain rfl:i=n:=by omega
       obtain⟨oA',oc',rfl⟩:=fT.out.rows.row.formN ul.out;have b0:=t8.out.cell;have Ke:¬ S (X+1+1):=λe=>by have:=eP.out _ e;omega
       have EN:¬ S (X+1+1+1):=λe=>by have:=eP.out _ e;omega
       have Iv:Hid (Boxed wr (X+1+1) 52 (.slice none 0 0)):=jq ((fT.out.rd.keep (X+1+1) (by omega) Ke).trans gu.out);have Hu:Hid (Boxed wr (X+1+1+1) 37 (.int .i64 0)):=jq ((fT.out.rd.keep (X+1+1+1) (by omega) EN).trans ue.out);have nZ:Hid (wr.heap[D]?=some (.deferred (some []))):=jq ((fT.out.rd.keep D Hr.out uo.out).trans Ie.out);have bD:Hid (Below X w wr):=jq (Hl.out.trans (fT.out.rd.below (by omega) (λk e=>by have:=eP.out k e;omega)));have o0:=Iv.out.cell;have o1:=Iv.out.frozen;have q0:=Hu.out.cell;have q1:=Hu.out.frozen;gi_wp2_with fail;obtain⟨W',hW'⟩:∃ W',((wr.setCell ⟨X+1+1,0,none⟩ (.slice oA' i oc')).setCell ⟨X+1+1+1,0,none⟩ (.int .i64 0))=W':=⟨_,rfl⟩;have B4:W'.heap.size=wr.heap.size:=by rw[<-hW'];simp
       have BE:∀ k,k≠X+1+1->k≠X+1+1+1->W'.heap[k]?=wr.heap[k]?:=λk h1 h2=>by rw[<-hW'];exact (wQ _ _ _ k h2).trans (wQ _ _ _ k h1)
       have EJ:Below X w W':=by rw[<-hW'];exact ((bD.out.setCell (p:=⟨X+1+1,0,none⟩) (by dsimp only;omega) _).setCell (p:=⟨X+1+1+1,0,none⟩) (by dsimp only;omega) _)
       have rq:W'.os=wr.os/\W'.tape=wr.tape/\W'.output=wr.output:=by rw[<-hW'];simp[World.setCell]
       have ES:W'.heap[D]?=some (.deferred (some [])):=(BE D (Ne.symm Br) (Ne.symm Bg)).trans nZ.out;have e0:W'.cell? ⟨X+1+1,0,none⟩=some (.slice oA' i oc'):=by rw[<-hW'];simp[go_sem,o0]
       have e1:W'.cell? ⟨X+1+1+1,0,none⟩=some (.int .i64 0):=by rw[<-hW'];simp[go_sem,q0]
       have f0:=(iQ (w:=W') (w':=W'.putObj D (.deferred none)) (a:=⟨X+1+1,0,none⟩) (zQ Br)).trans e0;have f1:=(iQ (w:=W') (w':=W'.putObj D (.deferred none)) (a:=⟨X+1+1+1,0,none⟩) (zQ Bg)).trans e1;rw[hW'];have Uk:∀ k,k≠X+1+1->k≠X+1+1+1->k≠D->(W'.putObj D (.deferred none)).heap[k]?=wr.heap[k]?:=λk h1 h2 h3=>(zQ h3).trans (BE k h1 h2);have VF:(W'.putObj D (.deferred none)).heap.size=wr.heap.size:=by simpa using B4
       have Iz:=jq (fT.out.calm (T:=λk=>k=X+1+1\/k=X+1+1+1\/k=D) (λk e=>by
        rcases e with rfl | rfl | rfl
        ·exact⟨by omega,Ke⟩
        ·exact⟨by omega,EN⟩
        ·exact⟨Hr.out,uo.out⟩) (w':=W'.putObj D (.deferred none)) rq VF (λk hk=>Uk k (λe=>hk (.inl e)) (λe=>hk (.inr (.inl e))) (λe=>hk (.inr (.inr e)))))
       refine nj ES (v:=.tuple #[.slice oA' i oc',.int .i64 0]) (by simp[results,results61,go_sem,f0,f1]) ⟨.inr ⟨bk.out,.inr ⟨(by have h1:=H0.out;simpa using h1),_,rfl,?_⟩⟩,ni EJ (by omega) _⟩;intro Mq S2;have mE:=ul.out;have K7:us'.map (λx=>(x.1,x.2.1))=(Np.dN PS).map λx=>(x.1,Np.f9 x.2):=by rw[DF.out,WR Im.out]
       have UJ:(us'.map λx=>(⟨z.data.toList,x.1,x.2.1,[]⟩:Np.Held))=Np.pub h.copies z.data.toList:=by
        have h1:=Qd (List.map λx:Np.Signed×List Np.Span=>(⟨z.data.toList,x.1,x.2,[]⟩:Np.Held)) K7;rw[List.map_map,List.map_map] at h1;refine Eq.trans h1 ?_;rw[<-mZ.out];exact (Np.Wy Np.f9 _ _).symm
       rw[<-UJ];exact Iz.out.slr hz (by omega) (λx hx=>by
        have h1:(x.1,x.2.1)∈us'.map (λx=>(x.1,x.2.1)):=List.mem_map.2 ⟨x,hx,rfl⟩;rw[K7] at h1;obtain⟨y,hy,he⟩:=List.mem_map.1 h1;simp only[Prod.mk.injEq] at he;rw[<-he.2];obtain⟨j,hj⟩:=List.mem_iff_getElem?.1 hy;have h2:=Gp y.2;have h3:=Np.GN PS y.1;rw[<-Np.Mv hj] at h3;have h4:=sw.out;rw[mZ.out] at h4;omega) (λk hk=>by
        have h1:=S2 k hk;refine⟨fT.out.ex k (by omega) (λe=>by have:=eP.out k e;omega),λe=>by have:=(Iz.out.lt e).1;omega⟩)
   case round=>
    rintro l0 pre ⟨⟨xh,xf,xt,xs,xA,xn,xc⟩,cc⟩ S W bp hI fd;have sI:Hid ((⟨⟨xh,xf,xt,xs,xA,xn,xc⟩,cc⟩:CV×Np.Copy)∈L):=jq ((List.mem_filter.1 (bp.subset (by simp:(⟨⟨xh,xf,xt,xs,xA,xn,xc⟩,cc⟩:CV×Np.Copy)∈_))).1);have no:=Xu hI ((vQ _ W).alloc (bQ _) (.cells #[.int .i64 xh,.int .i64 xf,.int .i64 xt,.string xs,.slice xA xn xc] 46));have uK:w6.heap.size<=W.heap.size:=by obtain⟨_,_,_,_,_,_,_,_,_,_,_,_,_,_,_,_,_,hB⟩:=hI;exact hB.size
    have sB:=jq bp;clear hI bp;gi_wp2;refine⟨λk=>S k\/k=W.heap.size,(RdStep.refl S W).alloc _,λk e=>e.imp id (λh=>by omega),λk e=>by rcases e with e | e;have:=fd k e;simp;omega;simp;omega,?_⟩;intro l W₂ aA;have SW:=MQ w6 Bh (Bh+1) (Bh+1+1) z pre S _ W₂ no (aA.weaken (bQ _) (λk e=>.inl e));have iW:=aA.size;simp only[World.size_alloc] at iW;have gH:W₂.heap[W.heap.size]?=some (.cells #[.int .i64 xh,.int .i64 xf,.int .i64 xt,.string xs,.slice xA xn xc] 46):=(aA.keep W.heap.size (by simp) (.inr (.inr rfl))).trans (heap_alloc_new _ _);obtain⟨us,ov,M,Bo,x7,Bn,hown,x6,xY,mbo,mbt,mbm,qU,py,qS,uJ,ve,aN⟩:=SW;have Qp:Hid (∀ k,S k->k<W.heap.size):=jq fd;have eP:=jq x6;have wW:=jq (And.intro Bo (And.intro x7 Bn));have nV:Hid (CVOf w6 X ⟨xh,xf,xt,xs,xA,xn,xc⟩ cc):=jq (km.out _ sI.out);have uH:Below X w6 W₂:=aN.below (by omega) (λk e=>by omega);have OO:=jq (dg.out.trans uH);have un:=jq aN;obtain⟨sets,vp⟩:∃ sets,cc.zone.sets=sets:=⟨_,rfl⟩;have wV:=jq vp;have Qn:Hid (SlR bh 5 W₂ X (.slice xA xn xc) sets):=jq (by have:=(nV.out.keep uH).sets;rw[vp] at this;exact this);have LP:sets.length=xn:=by rw[<-vp];exact nV.out.len
    have I4:=jq LP;have qV:cc∈h.copies:=by rw[<-mW.out];exact List.mem_map.2 ⟨_,sI.out,rfl⟩
    have jJ:=jq qV;have aoY:xn<=20000:=by rw[<-LP,<-vp];exact lA.out.2 cc qV
    have Kc:Np.jd cc=⟨xf,xt⟩:=by
     have h1:=nV.out.frm;have h2:=nV.out.til;dsimp only at h1 h2;unfold Np.jd;rw[h1,h2]
    obtain⟨PP,EW⟩:∃ PP,(pre.map (·.2)).flatMap Np.mG=PP:=⟨_,rfl⟩;rw[EW] at ve;have nT:Hid (((pre ++ [((⟨xh,xf,xt,xs,xA,xn,xc⟩,cc):CV×Np.Copy)]).map (·.2)).flatMap Np.mG=PP++sets.map λs=>((⟨xf,xt⟩:Np.Span),s)):=jq (by
     rw[List.map_append,List.flatMap_append,EW];simp[Np.mG,Kc,vp])
    have IQ:Hid (∃ c,Np.cV h.copies z.data.toList=(PP++sets.map λs=>((⟨xf,xt⟩:Np.Span),s))++c):=jq (by
     obtain⟨c,hc⟩:=Xk sB.out;rw[nT.out,JE km.out,mW.out] at hc;exact⟨c,hc⟩)
    have Iy:Hid (∀ j,(psP PP ⟨xf,xt⟩ sets j).length<=5000):=jq (λj=>by
     obtain⟨c,hc⟩:=IQ.out;have h1:=Qd List.length hc;have h2:=Xm PP ⟨xf,xt⟩ sets j;have h3:=sw.out;rw[List.length_append] at h1;omega)
    have P1:Hid (∀ j,∀ p∈psP PP ⟨xf,xt⟩ sets j,Np.Plain47 p.2):=jq (λj p hp=>by
     obtain⟨c,hc⟩:=IQ.out;have h1:p∈Np.cV h.copies z.data.toList:=by rw[hc];exact List.mem_append.2 (.inl (Xn hp))
     obtain⟨d,hd,_,hs,_⟩:=Np.tI.1 h1;exact Np.G4 (HV.out.each d hd).zone hs (D5.out d hd _ hs))
    obtain⟨w7,FZ⟩:∃ w7,W₂.setCell ⟨Bh+1,0,none⟩ (.bool true)=w7:=⟨_,rfl⟩;have t7:Turned (Bh+1) W₂ w7:=by rw[<-FZ];exact⟨rfl,rfl,rfl,by simp[World.setCell],λi hi=>wQ _ _ _ _ hi⟩
    have oI:w7.heap.size=W₂.heap.size:=t7.size;have Tv:=py.cell;have Tw:=py.frozen;have Hi:Hid (Boxed w7 (Bh+1) 4 (.bool true)):=jq (by rw[<-FZ];exact py.set _);have Hg:Hid (Boxed w7 Bh 52 ov):=jq ((t7.block Bh (by omega)).trans qU);have He:Hid (cA (Bh+1+1) (Np.l5 (us.map (·.1))) w7):=jq (qS.stays (t7.block _ (by omega)));have lz:=jq gH;have Kt:=(t7.block W.heap.size (by omega)).trans gH;have Ib:Hid (PubK S W₂ w6.heap.size z (λk=>M k/\k<W₂.heap.size) us ov w7):=jq ((PubK.start uJ xY hown).touch ⟨mbt,py.lt⟩ (.inl x7) (λe=>by have:=(uJ.lt e).1;omega) t7);have TA:w7.cell? ⟨W.heap.size,4,none⟩=some (.slice xA xn xc):=by simp[World.cell?,Kt]
    have I7:Hid (W₂.heap[X+1]?=w6.heap[X+1]?/\W₂.heap[Bh+1+1+1]?=w6.heap[Bh+1+1+1]?):=jq ⟨aN.keep _ (by omega) (by omega),aN.keep _ (by omega) (by omega)⟩;have Il:Hid ((M Bh/\Bh<W₂.heap.size)/\(M (Bh+1+1)/\Bh+1+1<W₂.heap.size)/\(M (Bh+1)/\Bh+1<W₂.heap.size)):=jq ⟨⟨mbo,by omega⟩,⟨mbm,by omega⟩,⟨mbt,by omega⟩⟩;have In:=jq ve;have hXW:X+4<=Bh:=by omega
    have xP:Bh+6<=W.heap.size:=by omega
    have EY:W.heap.size<W₂.heap.size:=by omega
    have Kr:¬ S W.heap.size:=λe=>by have:=fd _ e;omega
    have zS:=jq Kr;clear EW vp qU py qS uJ ve aN t7 gH Kt no aA fd x6 xY mbo mbt mbm hown Bo x7 Bn uH Kc qV Kr;gi_wp2_with fail;clear FZ TA Tv Tw;obtain⟨ih,Ua,T4,T5,T6⟩:=info_parts Tryz.infoHeldA;gi_loopw [33] (λi wr=>∃ (j:Nat) (us:List PT) (ov:Value) (M:Nat->Prop),j<=xn/\i = .int .i64 j/\W₂.heap.size<=wr.heap.size/\Hid (Boxed wr Bh 52 ov)/\Hid (Boxed wr (Bh+1) 4 (.bool true))/\Hid (cA (Bh+1+1) (Np.l5 (us.map (·.1))) wr)/\Hid (PubK S W₂ w6.heap.size z M us ov wr)/\Hid (M Bh/\M (Bh+1+1)/\M (Bh+1))/\Hid (us.map (λx=>(x.1,x.2.1))=Np.dN (psP PP ⟨xf,xt⟩ sets j))) (λi _=>xn - (intOf i).toNat)
    case atStart=>exact⟨0,us,ov,_,jQ _,rfl,by omega,Hg,Hi,He,Ib,Il,jq (by rw[Xp];exact In.out)⟩
    case round=>
     clear Hg Hi He Ib Il In oI;obtain⟨j,us,ov,M,hj,rfl,VG,t8,Hk,Hf,fT,gd,kn⟩:=hrel;have bD:Hid (Below X w wr):=jq (OO.out.trans (fT.out.rd.below (by omega) (λk e=>by have:=eP.out k e;omega)));have zZ:Hid (∀ k,k<W₂.heap.size->¬ S k->wr.heap[k]?=W₂.heap[k]?):=jq fT.out.rd.keep;by_cases aa:j<xn
     ·obtain⟨x,ab⟩:∃ x,sets[j]?=some x:=⟨_,aQ (by rw[I4.out];exact aa)⟩;obtain⟨b',o,c',ss,dv,sv,hA,hb',_,hs,Ly,aW,aM,e0,e1,e2,e3,e4⟩:=eq (Qn.out.keep aX (fT.out.rd.below (n:=X) (by omega) (λk e=>by have:=eP.out k e;omega))) ab;simp only[Value.slice.injEq] at hA;obtain⟨rfl,-,rfl⟩:=hA;have l3:x∈cc.zone.sets:=by rw[wV.out];exact gQ ab
      have Dv:Hid (KeyS x):=jq (OD (HV.out.each cc jJ.out).zone l3 (D5.out cc jJ.out x l3));have IB:Hid (Np.Plain47 x):=jq (Np.G4 (HV.out.each cc jJ.out).zone l3 (D5.out cc jJ.out x l3));have cJ:Hid (psP PP ⟨xf,xt⟩ sets (j+1)=psP PP ⟨xf,xt⟩ sets j ++ [(⟨xf,xt⟩,x)]):=jq (Xo ab);have nc:=jq (And.intro hs Ly);have I2:Hid ((⟨⟨ss.data.toList,x.set.type,x.set.life,x.set.data⟩,x.sigs⟩:Np.Signed)=x):=jq (by rw[hs]);have zV:Hid (x.set.data.length<=1000/\x.sigs.length<=1000):=jq (by have h1:=Dv.out.few;have h2:=Dv.out.fewS;omega);have oY:Hid (∀ W',Below X wr W'->SlR bn 3 W' W'.heap.size dv x.set.data):=jq (λW' hb=>(aW.keep de hb).more eN (by have:=hb.size;omega));have Dm:Hid (∀ W',Below X wr W'->SlR dj 6 W' W'.heap.size sv x.sigs):=jq (λW' hb=>(aM.keep ep hb).more gp (by have:=hb.size;omega));obtain⟨dA,dc,rfl,_,_⟩:=al aW;obtain⟨gA,gc,rfl,_,_⟩:=al aM;obtain⟨dn,uR⟩:∃ n,x.set.data.length=n:=⟨_,rfl⟩;obtain⟨gn,j5⟩:∃ n,x.sigs.length=n:=⟨_,rfl⟩;rw[uR] at e3 oY;rw[j5] at e4 Dm;have Pn:=jq uR;have zX:=jq j5;clear ab hs Ly aW aM uR j5 l3;have bO:(0:Int)<=(j:Int):=by omega
      have bM:(j:Int)<(xn:Int):=by omega
      obtain⟨w8,ke⟩:∃ w8,wr.alloc (.cells #[.string ss,.int .i64 x.set.type,.int .i64 x.set.life,.slice dA dn dc,.slice gA gn gc] 42)=w8:=⟨_,rfl⟩;have vt:w8.heap.size=wr.heap.size+1:=by rw[<-ke];simp
      have ik:Below wr.heap.size wr w8:=by rw[<-ke];exact (vQ _ _).alloc (bQ _) _
      have p0:w8.cell? ⟨wr.heap.size,0,none⟩=some (.string ss):=by rw[<-ke];simp[go_sem]
      have p1:w8.cell? ⟨wr.heap.size,1,none⟩=some (.int .i64 x.set.type):=by rw[<-ke];simp[go_sem]
      have p2:w8.cell? ⟨wr.heap.size,2,none⟩=some (.int .i64 x.set.life):=by rw[<-ke];simp[go_sem]
      have p3:w8.cell? ⟨wr.heap.size,3,none⟩=some (.slice dA dn dc):=by rw[<-ke];simp[go_sem]
      have p4:w8.cell? ⟨wr.heap.size,4,none⟩=some (.slice gA gn gc):=by rw[<-ke];simp[go_sem]
      have iz:=jq ik;clear ik;gi_wp2_with fail;refine⟨trivial,rfl,?_⟩;refine (CallsIn.inRound l (callsIn_wide.2 (Ze ss x.set.type x.set.life _ _ x.set.data x.sigs w8 (mi.out.keepAt (bD.out.trans (iz.out.mono (by omega))) wz.out) (by rw[I2.out];exact Dv.out) (oY.out w8 (iz.out.mono (by omega))) (Dm.out w8 (iz.out.mono (by omega)))))).mono ?_;rw[I2.out];rintro e w9 ⟨rfl,gF⟩;clear ke e0 e1 e2 e3 e4;have zd:=gF.size;have gN:Hid (Below wr.heap.size wr w9):=jq (iz.out.trans (gF.mono (by omega)));replace p0:=(cl gF (by omega)).trans p0;replace p1:=(cl gF (by omega)).trans p1;replace p2:=(cl gF (by omega)).trans p2;replace p3:=(cl gF (by omega)).trans p3;replace p4:=(cl gF (by omega)).trans p4;have zM:Hid (Boxed w9 Bh 52 ov):=jq (cG t8.out gN.out (by omega));have Hj:Hid (Boxed w9 (Bh+1) 4 (.bool true)):=jq (cG Hk.out gN.out (by omega));have C1:Hid (cA (Bh+1+1) (Np.l5 (us.map (·.1))) w9):=jq (Hf.out.keep gN.out (by omega));have pa:=jq (fT.out.keep gN.out);have Bx:=(gN.out.block _ (by omega)).trans ((zZ.out _ (by omega) zS.out).trans lz.out);have Kw:w9.heap[X+1]?=w6.heap[X+1]?:=(gN.out.block _ (by omega)).trans ((zZ.out _ (by omega) (λe=>by have:=eP.out _ e;omega)).trans I7.out.1);have Ku:w9.heap[Bh+1+1+1]?=w6.heap[Bh+1+1+1]?:=(gN.out.block _ (by omega)).trans ((zZ.out _ (by omega) (λe=>by have:=eP.out _ e;omega)).trans I7.out.2);have bx:w9.cell? ⟨Bh+1+1+1,0,none⟩=some (.map (some (Bh+1+1))):=(iQ Ku).trans O2.out.cell;have kz:w9.cell? ⟨X+1,0,none⟩=some (.string z):=(iQ Kw).trans qx.out;have gW:=YD (P:=prog) w9 213 9 3 underlying213 underlying9 (Bh+1+1) _ C1.out (Np.dC x) (.int .i64 0) (by kernel_rfl);have AD:Hid (∀ y∈us.map (·.1),Np.Plain47 y):=jq (λy hy=>by
       rw[Cb kn.out] at hy;obtain⟨p,hp,rfl⟩:=List.mem_map.1 (Np.tJ.1 hy);exact P1.out j p hp)
      have xd:Hid ((us.map (·.1)).Nodup):=jq (by rw[Cb kn.out];exact Np.tK _);have IU:Hid (us.length<=5000):=jq (by have h1:=Mu kn.out;have h2:=Iy.out j;omega);clear gF Kw Ku;obtain⟨key,oy⟩:∃ key,Np.dC x=key:=⟨_,rfl⟩;rw[oy] at gW |-;by_cases hin:x∈us.map (·.1)
      ·obtain⟨q,hq⟩:=List.mem_iff_getElem?.1 hin;have eI:(Np.l5 (us.map (·.1))).lookup key=some (.int .i64 ((q:Nat):Int)):=by rw[<-oy];exact Np.V6 IB.out AD.out xd.out hq
       rw[eI] at gW;simp only[Option.getD_some,Option.isSome_some] at gW;rw[Cb kn.out] at hq;obtain⟨fv,hy⟩:=WC kn.out hq;obtain⟨tl,lY⟩:∃ tl,Np.fq (psP PP ⟨xf,xt⟩ sets j) x=tl:=⟨_,rfl⟩;have jM:Hid (∀ v',(us.set q (x,tl ++ [⟨xf,xt⟩],v')).map (λx=>(x.1,x.2.1))=Np.dN (psP PP ⟨xf,xt⟩ sets (j+1))):=jq (λv'=>by rw[cJ.out,<-lY];exact WE kn.out hq _ v');have D8:Hid (tl.length<=5000):=jq (by rw[<-lY];have h1:=NY (psP PP ⟨xf,xt⟩ sets j) x;have h2:=Iy.out j;omega);rw[lY] at hy;clear hin eI hq lY oy;obtain⟨n,hn⟩:∃ n,us.length=n:=⟨_,rfl⟩;have anQ:q<n:=by rw[<-hn];exact (cQ.1 hy).1
       obtain⟨g,cap,rfl,dm,Fp,tf⟩:=pa.out.rows.row.formSome hn (by omega);have gO:=jq hn;have FB:n<=5000:=by rw[<-hn];exact IU.out
       have rp:aK w6.heap.size w9 fv tl:=pa.out.rows.fresh _ (gQ hy);obtain⟨fA,fc,rfl⟩:=aK.form rp;obtain⟨fn,im⟩:∃ fn,tl.length=fn:=⟨_,rfl⟩;rw[im] at hy rp;have r9:=jq im;have HY:=jq hy;have kR:Hid (∀ k,(Value.slice fA fn fc).ownBlock=some k->w6.heap.size<=k/\k≠g/\k≠W.heap.size):=jq (λk e=>by
        have h1:=World.ownsRow.lt rp k e;have h2:=(pa.out.rows.off _ (gQ hy) k e).1;have h3:=pa.out.own k (.inr ⟨_,gQ hy,e⟩);exact⟨h1.1,λe=>h2 (by rw[e];rfl),λe2=>by
         subst e2;rcases h3 with h3 | h3
         ·exact zS.out h3
         ·omega⟩)
       have b6:=zM.out.cell;have f6:w9.cell? ⟨g,q * 8+6,none⟩=some (.slice fA fn fc):=Fo pa.out.rows.row hy;have c1:w9.cell? ⟨W.heap.size,1,none⟩=some (.int .i64 xf):=by simp[World.cell?,Bx]
       have c2:w9.cell? ⟨W.heap.size,2,none⟩=some (.int .i64 xt):=by simp[World.cell?,Bx]
       have nJ:(0:Int)<=(q:Int):=by omega
       have jD:(q:Int)<(n:Int):=by omega
       have nA:decide ((20000:Int)<(n:Int))=false:=tQ (by omega);have T3:decide (20000<n)=false:=tQ (by omega);have nY:=pa;have zL:=zM;have C3:=Hj;have zK:=C1;have sr:=gd;have T2:W.heap.size<w9.heap.size:=by omega
       clear hn hy rp im Bx tf;gi_wp2_with fail;refine CI λa0 fh=>?_;have rP:=jq fh;have iy:=jq (show a0.eval (.tmp 6) = .pointer (some ⟨Bh,0,none⟩) by rw[fh];rfl);have rR:=jq (show a0.eval (.tmp 13) = .int .i64 (q:Nat) by rw[fh];rfl);have rS:=jq (show a0.eval (.tmp 9) = .pointer (some ⟨W.heap.size,0,none⟩) by rw[fh];rfl);have HM:=jq (show a0.tmps.size=101 by rw[fh];rfl);clear fh;refine G0 (by kernel_rfl) (by kernel_rfl) (by rintro⟨_,_,h⟩;exact h) ?_;refine oV (w:=w9.drew) (D:=[0,1,2,3,4,5,6,7,8,9,10,11,14,15]) (A:=[]) (p:=12) (dst:=dR) (val:=dY g n cap q fA fn fc W.heap.size xf xt undef undef) (m:=101)
        (base:=jc a0 101 tN) (oU (by kernel_rfl)) (by simp) (by simp) (mM (by kernel_rfl)) ?_
        (λi hi=>(ja i (by simp at hi |-;omega)).1) (λi hi j hj=>oM i (by simp at hi |-;omega) j (by simp at hj |-;omega)) (λi hi=>gM (ja i (by simp at hi |-;omega)).2) ?_ ?_ _ _ _ (Held.start (λq hq=>Cq q hq) HM.out)
       ·intro i hi bC;simp only[List.mem_cons,Qh,or_false] at hi;rcases hi with rfl | rfl | rfl | rfl | rfl | rfl | rfl | rfl | rfl | rfl | rfl | rfl | rfl | rfl
        all_goals first | (exfalso;simp at bC;done) | exact⟨_,rfl,rfl⟩
       ·intro i hi bC o ho a' hb cM;have k6':=(cR hb (j:=6) (by decide) (by decide)).trans iy.out;have k13':=(cR hb (j:=13) (by decide) (by decide)).trans rR.out;have k9':=(cR hb (j:=9) (by decide) (by decide)).trans rS.out;simp[Act.eval] at k6' k13' k9';simp only[List.mem_cons,Qh,or_false] at hi;rcases hi with rfl | rfl | rfl | rfl | rfl | rfl | rfl | rfl | rfl | rfl | rfl | rfl | rfl | rfl
        all_goals first
         | (exfalso;simp at bC;done)
         | (cases ho
            try simp[Act.eval,Region.binds,dY,dR] at cM
            refine .inl ⟨by simp[Region.wanted],λw' hw'=>?_⟩;subst hw';simp[Oper.quietAt,Oper.quietUpon,execOp,go_sem,dY,k6',k13',k9',b6,f6,c1,c2,nJ,jD,cM])
       ·intro f listed a' hH hr;obtain⟨_,o,ho,aH⟩:=mem_ready.1 hr
        cases ho
        have hG:=hH.good;have hval:=λi hi hl=>hG.val i hi hl;have eJ:∀ k,({ on:=k,ground:=.data } : Edge)∈_->listed.getD k false=true:=λk hk=>aH _ hk rfl;have av11:=hval 11 (by simp) (eJ 11 (by simp));simp[Act.eval,dY,dR] at av11;simp only[wpOp];simp[Region.wanted];refine .inl ?_;simp[Oper.wp,execOp,go_sem,av11];obtain⟨wA,nM⟩:∃ W',W'=(w9.alloc (.cells #[.int .i64 xf,.int .i64 xt] 110)).drew:=⟨_,rfl⟩;rw[<-nM];have kx:Below w9.heap.size w9 wA:=by rw[nM];exact ((vQ _ _).alloc (bQ _) _).drew
        have Vz:wA.heap.size=w9.heap.size+1:=by rw[nM];simp[World.drew]
        have wt:Hid (wA.cell? ⟨w9.heap.size,0,none⟩=some (.int .i64 xf)/\wA.cell? ⟨w9.heap.size,1,none⟩=some (.int .i64 xt)):=jq (by rw[nM];exact⟨by simp[go_sem],by simp[go_sem]⟩);replace b6:=(cl kx (by omega)).trans b6;replace f6:=(cl kx (by omega)).trans f6;replace c1:=(cl kx (by omega)).trans c1;replace c2:=(cl kx (by omega)).trans c2;have sh:=jq (nY.out.keep kx);have eW:=jq kx;clear nM kx;refine oV (w:=wA) (D:=[0,1,2,3,4,5,6,7,8,9,10,11,14,15,12]) (A:=[12]) (p:=13) (dst:=dR) (val:=dY g n cap q fA fn fc W.heap.size xf xt (.slice (some ⟨w9.heap.size,0,none⟩) 1 1) undef) (m:=101)
         (base:=jc a0 101 tN) (oU (by kernel_rfl)) (by simp) (by simp) (mM (by kernel_rfl)) ?_
         (λi hi=>(ja i (by simp at hi |-;omega)).1) (λi hi j hj=>oM i (by simp at hi |-;omega) j (by simp at hj |-;omega)) (λi hi=>gM (ja i (by simp at hi |-;omega)).2) ?_ ?_ _ _ _ (hH.act (D':=[0,1,2,3,4,5,6,7,8,9,10,11,14,15,12]) (val':=dY g n cap q fA fn fc W.heap.size xf xt (.slice (some ⟨w9.heap.size,0,none⟩) 1 1) undef) hr (by simp) (λi hi=>by simp at hi |-;omega) (λi hi=>by simp at hi;rcases hi with rfl | rfl | rfl | rfl | rfl | rfl | rfl | rfl | rfl | rfl | rfl | rfl | rfl | rfl <;> rfl) rfl (by simp[dR]) (λj hj=>oM 12 (by simp) j (by simp at hj |-;omega) (by rintro rfl;simp at hj)) (gM (ja 12 (by simp)).2) (by simp))
        ·intro i hi bC;simp only[List.mem_cons,Qh,or_false] at hi;rcases hi with rfl | rfl | rfl | rfl | rfl | rfl | rfl | rfl | rfl | rfl | rfl | rfl | rfl | rfl | rfl
         all_goals first | (exfalso;simp at bC;done) | exact⟨_,rfl,rfl⟩
        ·intro i hi bC o ho a' hb cM;have k6':=(cR hb (j:=6) (by decide) (by decide)).trans iy.out;have k13':=(cR hb (j:=13) (by decide) (by decide)).trans rR.out;have k9':=(cR hb (j:=9) (by decide) (by decide)).trans rS.out;simp[Act.eval] at k6' k13' k9';simp only[List.mem_cons,Qh,or_false] at hi;rcases hi with rfl | rfl | rfl | rfl | rfl | rfl | rfl | rfl | rfl | rfl | rfl | rfl | rfl | rfl | rfl
         all_goals first
          | (exfalso;simp at bC;done)
          | (cases ho
             try simp[Act.eval,Region.binds,dY,dR] at cM
             refine .inl ⟨by simp[Region.wanted],λw' hw'=>?_⟩;subst hw';simp[Oper.quietAt,Oper.quietUpon,execOp,go_sem,dY,k6',k13',k9',b6,f6,c1,c2,nJ,jD,cM])
        ·intro f listed a' hH hr;obtain⟨_,o,ho,aH⟩:=mem_ready.1 hr
         cases ho
         have hG:=hH.good;have hval:=λi hi hl=>hG.val i hi hl;have eJ:∀ k,({ on:=k,ground:=.data } : Edge)∈_->listed.getD k false=true:=λk hk=>aH _ hk rfl;have av6:=hval 6 (by simp) (eJ 6 (by simp));have av12:=hval 12 (by simp) (eJ 12 (by simp));simp[dY,dR] at av6 av12;simp only[wpOp];simp[Region.wanted];refine .inl ?_;refine Ou wA (.tmp 68) (.tmp 74) rfl w6.heap.size (.slice fA fn fc) tl av6 (sh.out.rows.fresh _ (gQ HY.out)) w9.heap.size xf xt av12 wt.out.1 wt.out.2 (by have:=D8.out;omega) (by omega) ?_;intro v8 wB gl dz lM;obtain⟨eA,ec,rfl⟩:=MG gl (n:=(fn+1)) (by rw[List.length_append,r9.out];rfl);have VB:=dz.size;have ffA:wA.frozen? ⟨g,q * 8+6,none⟩=false:=sh.out.rows.row.frozenAt gO.out _;have pJ:wB.heap[Bh]?=wA.heap[Bh]?:=dz.block Bh (by omega) (λe=>by have:=(kR.out Bh e.symm).1;omega);have tm:wB.heap[g]?=wA.heap[g]?:=dz.block g (by omega) (λe=>(kR.out g e.symm).2.1 rfl);have tk:wB.heap[W.heap.size]?=wA.heap[W.heap.size]?:=dz.block W.heap.size (by omega) (λe=>(kR.out _ e.symm).2.2 rfl);replace b6:=(iQ (a:=⟨Bh,0,none⟩) pJ).trans b6;replace f6:=(iQ (a:=⟨g,q * 8+6,none⟩) tm).trans f6;replace c1:=(iQ (a:=⟨W.heap.size,1,none⟩) tk).trans c1;replace c2:=(iQ (a:=⟨W.heap.size,2,none⟩) tk).trans c2;have ff:=(World.frozen?_of_block (a:=⟨g,q * 8+6,none⟩) tm).trans ffA;have H8:=jq (And.intro gl (And.intro dz lM));clear gl dz lM pJ tm tk ffA;refine oV (w:=wB) (D:=[0,1,2,3,4,5,6,7,8,9,10,11,14,15,12,13]) (A:=[13,12]) (p:=16) (dst:=dR) (val:=dY g n cap q fA fn fc W.heap.size xf xt (.slice (some ⟨w9.heap.size,0,none⟩) 1 1) (.slice eA (fn+1) ec)) (m:=101)
          (base:=jc a0 101 tN) (oU (by kernel_rfl)) (by simp) (by simp) (mM (by kernel_rfl)) ?_
          (λi hi=>(ja i (by simp at hi |-;omega)).1) (λi hi j hj=>oM i (by simp at hi |-;omega) j (by simp at hj |-;omega)) (λi hi=>gM (ja i (by simp at hi |-;omega)).2) ?_ ?_ _ _ _ (hH.act (D':=[0,1,2,3,4,5,6,7,8,9,10,11,14,15,12,13]) (val':=dY g n cap q fA fn fc W.heap.size xf xt (.slice (some ⟨w9.heap.size,0,none⟩) 1 1) (.slice eA (fn+1) ec)) hr (by simp) (λi hi=>by simp at hi |-;omega) (λi hi=>by simp at hi;rcases hi with rfl | rfl | rfl | rfl | rfl | rfl | rfl | rfl | rfl | rfl | rfl | rfl | rfl | rfl | rfl <;> rfl) rfl (by simp[dR]) (λj hj=>oM 13 (by simp) j (by simp at hj |-;omega) (by rintro rfl;simp at hj)) (gM (ja 13 (by simp)).2) (by simp))
         ·intro i hi bC;simp only[List.mem_cons,Qh,or_false] at hi;rcases hi with rfl | rfl | rfl | rfl | rfl | rfl | rfl | rfl | rfl | rfl | rfl | rfl | rfl | rfl | rfl | rfl
          all_goals first | (exfalso;simp at bC;done) | exact⟨_,rfl,rfl⟩
         ·intro i hi bC o ho a' hb cM;have k6':=(cR hb (j:=6) (by decide) (by decide)).trans iy.out;have k13':=(cR hb (j:=13) (by decide) (by decide)).trans rR.out;have k9':=(cR hb (j:=9) (by decide) (by decide)).trans rS.out;simp[Act.eval] at k6' k13' k9';simp only[List.mem_cons,Qh,or_false] at hi;rcases hi with rfl | rfl | rfl | rfl | rfl | rfl | rfl | rfl | rfl | rfl | rfl | rfl | rfl | rfl | rfl | rfl
          all_goals first
           | (exfalso;simp at bC;done)
           | (cases ho
              try simp[Act.eval,Region.binds,dY,dR] at cM
              refine .inl ⟨by simp[Region.wanted],λw' hw'=>?_⟩;subst hw';simp[Oper.quietAt,Oper.quietUpon,execOp,go_sem,dY,k6',k13',k9',b6,f6,c1,c2,nJ,jD,cM])
         ·intro f listed a' hH hr;obtain⟨_,o,ho,aH⟩:=mem_ready.1 hr
          cases ho
          have hG:=hH.good;have hval:=λi hi hl=>hG.val i hi hl;have eJ:∀ k,({ on:=k,ground:=.data } : Edge)∈_->listed.getD k false=true:=λk hk=>aH _ hk rfl;obtain⟨rfl,ip⟩:=hH.all hr (by kernel_rfl);have av13:=hval 13 (by simp) (ip 13 (by simp) (by simp));have av15:=hval 15 (by simp) (ip 15 (by simp) (by simp));simp[Act.eval,dY,dR] at av13 av15;have qZ:=Held.frame (D:=[0,1,2,3,4,5,6,7,8,9,10,11,14,15,12,13]) (dst:=dR) (a0:=a0) (m:=101) hH HM.out (λi hi=>ip i (by simp at hi |-;omega) (by simp at hi;omega)) (λi hi=>(ja i (by simp at hi |-;omega)).1);simp only[wpOp];simp[Region.wanted];refine .inl ?_;simp[Oper.wp,execOp,go_sem,av13,av15,f6,ff];refine⟨Ck (λi hi=>?_) (by rw[Array.size_setIfInBounds];exact hG.size),?_⟩
          ·by_cases hip:i=16
           ·subst hip;have hs:16<listed.size:=by rw[hG.size];exact hi
            simp[Array.getD,hs]
           ·exact qd (ip i hi hip)
          ·rw[qZ,rP.out];simp[oO,Act.put,dY,dR];clear qZ hval eJ ip aH hG hH;clear b6 f6 c1 c2 ff;obtain⟨W',hW'⟩:∃ W',wB.setCell ⟨g,q * 8+6,none⟩ (.slice eA (fn+1) ec)=W':=⟨_,rfl⟩;have Dj:Hid (PubK S W₂ w6.heap.size z (λk=>M k\/(Value.slice eA (fn+1) ec).ownBlock=some k) (us.set q (x,tl ++ [⟨xf,xt⟩],.slice eA (fn+1) ec)) (.slice (some ⟨g,0,none⟩) n cap) W'):=jq (by rw[<-hW'];exact sh.out.changed gO.out HY.out H8.out.2.1 H8.out.1 H8.out.2.2);have fH:Hid (Below w6.heap.size w9 W'):=jq (by rw[<-hW'];exact ((eW.out.mono (by omega)).trans ((vQ _ _).grown H8.out.2.1 (by omega) (λk e=>(kR.out k e).1))).setCell (by dsimp only;omega) _);have D2:Hid ((us.set q (x,tl ++ [(⟨xf,xt⟩:Np.Span)],Value.slice eA (fn+1) ec)).map (·.1)=us.map (·.1)):=jq (Ny HY.out rfl);rw[hW'];have B3:W'.heap.size=wB.heap.size:=by rw[<-hW'];simp[World.setCell]
           gi_wp2_with fail;go_roundw
           case measure=>simp[intOf] <;> omega
           case rel=>exact⟨j+1,_,_,_,by omega,by go_num,by omega,jq (cG zL.out fH.out (by omega)),jq (cG C3.out fH.out (by omega)),jq (by rw[D2.out];exact zK.out.keep fH.out (by omega)),Dj,jq ⟨.inl sr.out.1,.inl sr.out.2.1,.inl sr.out.2.2⟩,jq (jM.out _)⟩
      ·have eI:(Np.l5 (us.map (·.1))).lookup key=none:=by rw[<-oy];exact Np.V4 IB.out AD.out hin
       rw[eI] at gW;simp only[Option.getD_none,Option.isSome_none] at gW;have Lc:x∉Np.cE ((psP PP ⟨xf,xt⟩ sets j).map (·.2)):=by rw[<-Cb kn.out];exact hin
       obtain⟨m,hm⟩:∃ m,us.length=m:=⟨_,rfl⟩;have su:=jq hm;have uk:Hid (m<=5000):=jq (by rw[<-hm];exact IU.out);obtain⟨wU,K9,yG,cF⟩:=Nu (P:=prog) w9 213 9 3 underlying213 underlying9 (Bh+1+1) _ C1.out key (.int .i64 ((m:Nat):Int)) eI;obtain⟨oA,oc,rfl⟩:=pa.out.rows.row.formN hm;have b6:=zM.out.cell;have jM:Hid (∀ v',((us ++ [((x,[],.slice none 0 0):PT)]).set m (x,[] ++ [⟨xf,xt⟩],v')).map (λx=>(x.1,x.2.1))=Np.dN (psP PP ⟨xf,xt⟩ sets (j+1))):=jq (λv'=>by rw[cJ.out,<-hm];exact WD kn.out Lc _ _ v');have VE:wU.heap.size=w9.heap.size:=cF.size;have Id:=jq (pa.out.touch gd.out.2.1 (.inl wW.out.2.2) (λe=>by have:=(pa.out.rows.lt e).1;omega) cF);have ua:Hid (Below X wr wU):=jq ((gN.out.mono (by omega)).trans (cF.below (by omega)));have t6:Hid (Boxed wU Bh 52 (.slice oA m oc)):=jq ((cF.block Bh (by omega)).trans zM.out);have O0:Hid (Boxed wU (Bh+1) 4 (.bool true)):=jq ((cF.block (Bh+1) (by omega)).trans Hj.out);have OV:Hid (cA (Bh+1+1) (Np.l5 ((us ++ [((x,[],.slice none 0 0):PT)]).map (·.1))) wU):=jq (by
        rw[List.map_append,List.map_cons,List.map_nil,Np.V5,oy,List.length_map,hm];exact yG)
       have Pe:Hid (wU.heap[W.heap.size]?=W₂.heap[W.heap.size]?):=jq ((cF.block _ (by omega)).trans ((gN.out.block _ (by omega)).trans (zZ.out _ (by omega) zS.out)));clear hin eI Lc hm oy yG Bx;gi_wp2_with fail;replace b6:=t6.out.cell;replace kz:=(iQ (a:=⟨X+1,0,none⟩) (cF.block (X+1) (by omega))).trans kz;replace p0:=(iQ (a:=⟨wr.heap.size,0,none⟩) (cF.block wr.heap.size (by omega))).trans p0;replace p1:=(iQ (a:=⟨wr.heap.size,1,none⟩) (cF.block wr.heap.size (by omega))).trans p1;replace p2:=(iQ (a:=⟨wr.heap.size,2,none⟩) (cF.block wr.heap.size (by omega))).trans p2;replace p3:=(iQ (a:=⟨wr.heap.size,3,none⟩) (cF.block wr.heap.size (by omega))).trans p3;replace p4:=(iQ (a:=⟨wr.heap.size,4,none⟩) (cF.block wr.heap.size (by omega))).trans p4;clear K9 gW bx cF;refine CI λa0 fh=>?_;have rP:=jq fh;have iy:=jq (show a0.eval (.tmp 6) = .pointer (some ⟨Bh,0,none⟩) by rw[fh];rfl);have qn:=jq (show a0.eval (.tmp 3) = .pointer (some ⟨X+1,0,none⟩) by rw[fh];rfl);have zI:=jq (show a0.eval (.tmp 11) = .pointer (some ⟨wr.heap.size,0,none⟩) by rw[fh];rfl);have HM:=jq (show a0.tmps.size=101 by rw[fh];rfl);clear fh;refine G0 (by kernel_rfl) (by kernel_rfl) (by rintro⟨_,_,h⟩;exact h) ?_;refine oV (w:=wU.drew) (D:=[0,1,2]) (A:=[]) (p:=3) (dst:=go) (val:=gZ oA m oc z ss x.set.type x.set.life dA dn dc gA gn gc undef undef undef) (m:=101)
        (base:=jc a0 101 zp) (oU (by kernel_rfl)) (by simp) (by simp) (mM (by kernel_rfl)) ?_
        (λi hi=>(mH i (by simp at hi |-;omega)).1) (λi hi j hj=>tM i (by simp at hi |-;omega) j (by simp at hj |-;omega)) (λi hi=>gM (mH i (by simp at hi |-;omega)).2) ?_ ?_ _ _ _ (Held.start (λq hq=>Cq q hq) HM.out)
       ·intro i hi bC;simp only[List.mem_cons,Qh,or_false] at hi;rcases hi with rfl | rfl | rfl
        all_goals first | (exfalso;simp at bC;done) | exact⟨_,rfl,rfl⟩
       ·intro i hi bC o ho a' hb cM;have k6':=(cR hb (j:=6) (by decide) (by decide)).trans iy.out;have k3':=(cR hb (j:=3) (by decide) (by decide)).trans qn.out;have k11':=(cR hb (j:=11) (by decide) (by decide)).trans zI.out;simp[Act.eval] at k6' k3' k11';simp only[List.mem_cons,Qh,or_false] at hi;rcases hi with rfl | rfl | rfl
        all_goals first
         | (exfalso;simp at bC;done)
         | (cases ho
            try simp[Act.eval,Region.binds,gZ,go] at cM
            refine .inl ⟨by simp[Region.wanted],λw' hw'=>?_⟩;subst hw';simp[Oper.quietAt,Oper.quietUpon,execOp,go_sem,gZ,k6',k3',k11',b6,kz,p0,p1,p2,p3,p4,vE,cM])
       ·intro f listed a' hH hr;obtain⟨_,o,ho,aH⟩:=mem_ready.1 hr
        cases ho
        have hG:=hH.good;have hval:=λi hi hl=>hG.val i hi hl;have eJ:∀ k,({ on:=k,ground:=.data } : Edge)∈_->listed.getD k false=true:=λk hk=>aH _ hk rfl;have av2:=hval 2 (by simp) (eJ 2 (by simp));simp[Act.eval,gZ,go] at av2;simp only[wpOp];simp[Region.wanted];refine .inl ?_;simp[Oper.wp,go_sem,av2];refine (RD ss x.set.type x.set.life _ x.set.data _ x.sigs (by have:=zV.out.1;omega) (by have:=zV.out.2;omega) wU.drew (oY.out wU.drew ua.out.drew) (Dm.out wU.drew ua.out.drew)).mono ?_;rintro e wC ⟨dv2,gv2,rfl,kB,yg⟩;have iN:Below wU.heap.size wU wC:=(vQ wU.heap.size wU).drew.trans yg;have VC:=iN.size;replace p0:=(cl iN (by omega)).trans p0;replace p1:=(cl iN (by omega)).trans p1;replace p2:=(cl iN (by omega)).trans p2;replace p3:=(cl iN (by omega)).trans p3;replace p4:=(cl iN (by omega)).trans p4;replace b6:=(cl iN (by omega)).trans b6;replace kz:=(cl iN (by omega)).trans kz;have mT:Hid (G6 wU.heap.size wC dv2 gv2 x.set.data x.sigs):=jq kB;obtain⟨dA2,dc2,rfl,_,_⟩:=al ((kB (λ_=>False) (λ_ e=>e.elim)).1);obtain⟨gA2,gc2,rfl,_,_⟩:=al ((kB (λ_=>False) (λ_ e=>e.elim)).2);rw[Pn.out,zX.out] at mT |-;have PE:=jq (Id.out.keep iN);have C0:=jq iN;clear kB iN yg;dsimp only;refine oV (w:=wC) (D:=[0,1,2,4,3]) (A:=[3]) (p:=5) (dst:=go) (val:=gZ oA m oc z ss x.set.type x.set.life dA dn dc gA gn gc (.agg #[.string ss,.int .i64 x.set.type,.int .i64 x.set.life,.slice dA2 dn dc2,.slice gA2 gn gc2]) undef undef) (m:=101)
         (base:=jc a0 101 zp) (oU (by kernel_rfl)) (by simp) (by simp) (mM (by kernel_rfl)) ?_
         (λi hi=>(mH i (by simp at hi |-;omega)).1) (λi hi j hj=>tM i (by simp at hi |-;omega) j (by simp at hj |-;omega)) (λi hi=>gM (mH i (by simp at hi |-;omega)).2) ?_ ?_ _ _ _ (hH.act (D':=[0,1,2,4,3]) (val':=gZ oA m oc z ss x.set.type x.set.life dA dn dc gA gn gc (.agg #[.string ss,.int .i64 x.set.type,.int .i64 x.set.life,.slice dA2 dn dc2,.slice gA2 gn gc2]) undef undef) hr (by simp) (λi hi=>by simp at hi |-;omega) (λi hi=>by simp at hi;rcases hi with rfl | rfl | rfl <;> rfl) rfl (by simp[go]) (λj hj=>tM 3 (by simp) j (by simp at hj |-;omega) (by rintro rfl;simp at hj)) (gM (mH 3 (by simp)).2) (by simp))
        ·intro i hi bC;simp only[List.mem_cons,Qh,or_false] at hi;rcases hi with rfl | rfl | rfl | rfl | rfl
         all_goals first | (exfalso;simp at bC;done) | exact⟨_,rfl,rfl⟩
        ·intro i hi bC o ho a' hb cM;have k6':=(cR hb (j:=6) (by decide) (by decide)).trans iy.out;have k3':=(cR hb (j:=3) (by decide) (by decide)).trans qn.out;have k11':=(cR hb (j:=11) (by decide) (by decide)).trans zI.out;simp[Act.eval] at k6' k3' k11';simp only[List.mem_cons,Qh,or_false] at hi;rcases hi with rfl | rfl | rfl | rfl | rfl
         all_goals first
          | (exfalso;simp at bC;done)
          | (cases ho
             try simp[Act.eval,Region.binds,gZ,go] at cM
             refine .inl ⟨by simp[Region.wanted],λw' hw'=>?_⟩;subst hw';simp[Oper.quietAt,Oper.quietUpon,execOp,go_sem,gZ,k6',k3',k11',b6,kz,p0,p1,p2,p3,p4,vE,cM])
        ·intro f listed a' hH hr;obtain⟨_,o,ho,aH⟩:=mem_ready.1 hr
         cases ho
         have hG:=hH.good;have hval:=λi hi hl=>hG.val i hi hl;have eJ:∀ k,({ on:=k,ground:=.data } : Edge)∈_->listed.getD k false=true:=λk hk=>aH _ hk rfl;have av4:=hval 4 (by simp) (eJ 4 (by simp));simp[Act.eval,gZ,go] at av4;simp only[wpOp];simp[Region.wanted];refine .inl ?_;simp[vE] at av4;simp[Oper.wp,execOp,go_sem,av4];obtain⟨wX,BZ⟩:∃ W',W'=wC.alloc (.cells #[.string z,.string ss,.int .i64 x.set.type,.int .i64 x.set.life,.slice dA2 dn dc2,.slice gA2 gn gc2,.slice none 0 0,.slice none 0 0] 57):=⟨_,rfl⟩;rw[<-BZ];have ky:Below wC.heap.size wC wX:=by rw[BZ];exact (vQ _ _).alloc (bQ _) _
         have Ks:ag wX wC.heap.size 0 [.string z,.string ss,.int .i64 x.set.type,.int .i64 x.set.life,.slice dA2 dn dc2,.slice gA2 gn gc2,.slice none 0 0,.slice none 0 0]:=λi v hi=>by
          rw[BZ]
          match i,hi with
          | 0,hi=>cases hi;simp[go_sem]
          | 1,hi=>cases hi;simp[go_sem]
          | 2,hi=>cases hi;simp[go_sem]
          | 3,hi=>cases hi;simp[go_sem]
          | 4,hi=>cases hi;simp[go_sem]
          | 5,hi=>cases hi;simp[go_sem]
          | 6,hi=>cases hi;simp[go_sem]
          | 7,hi=>cases hi;simp[go_sem]
          | i+8,hi=>simp at hi
         have hzX:=ky.size;replace p0:=(cl ky (by omega)).trans p0;replace p1:=(cl ky (by omega)).trans p1;replace p2:=(cl ky (by omega)).trans p2;replace p3:=(cl ky (by omega)).trans p3;replace p4:=(cl ky (by omega)).trans p4;replace b6:=(cl ky (by omega)).trans b6;replace kz:=(cl ky (by omega)).trans kz;have ji:=jq Ks;have Dw:=jq (PE.out.keep ky);have C4:=jq ky;have lF:Hid (oe z (bd wX M) wX.heap.size [.string z,.string ss,.int .i64 x.set.type,.int .i64 x.set.life,.slice dA2 dn dc2,.slice gA2 gn gc2,.slice none 0 0,.slice none 0 0] (x,[],.slice none 0 0)):=jq (by
          have h1:=mT.out M (λk hk=>Id.out.lt k hk);have h2:=(Leaves'.of_below (M:=M) ky).slr de zt eN h1.1;have h3:=(Leaves'.of_below (M:=M) ky).slr ep zx gp h1.2;exact⟨ss,_,_,none,0,0,rfl,rfl,nc.out.1,nc.out.2,h2,h3⟩)
         clear BZ ky Ks;refine oV (w:=wX) (D:=[0,1,2,4,3,5]) (A:=[5,3]) (p:=6) (dst:=go) (val:=gZ oA m oc z ss x.set.type x.set.life dA dn dc gA gn gc (.agg #[.string ss,.int .i64 x.set.type,.int .i64 x.set.life,.slice dA2 dn dc2,.slice gA2 gn gc2]) (.slice (some ⟨wC.heap.size,0,none⟩) 1 1) undef) (m:=101)
          (base:=jc a0 101 zp) (oU (by kernel_rfl)) (by simp) (by simp) (mM (by kernel_rfl)) ?_
          (λi hi=>(mH i (by simp at hi |-;omega)).1) (λi hi j hj=>tM i (by simp at hi |-;omega) j (by simp at hj |-;omega)) (λi hi=>gM (mH i (by simp at hi |-;omega)).2) ?_ ?_ _ _ _ (hH.act (D':=[0,1,2,4,3,5]) (val':=gZ oA m oc z ss x.set.type x.set.life dA dn dc gA gn gc (.agg #[.string ss,.int .i64 x.set.type,.int .i64 x.set.life,.slice dA2 dn dc2,.slice gA2 gn gc2]) (.slice (some ⟨wC.heap.size,0,none⟩) 1 1) undef) hr (by simp) (λi hi=>by simp at hi |-;omega) (λi hi=>by simp at hi;rcases hi with rfl | rfl | rfl | rfl | rfl <;> rfl) rfl (by simp[go]) (λj hj=>tM 5 (by simp) j (by simp at hj |-;omega) (by rintro rfl;simp at hj)) (gM (mH 5 (by simp)).2) (by simp))
         ·intro i hi bC;simp only[List.mem_cons,Qh,or_false] at hi;rcases hi with rfl | rfl | rfl | rfl | rfl | rfl
          all_goals first | (exfalso;simp at bC;done) | exact⟨_,rfl,rfl⟩
         ·intro i hi bC o ho a' hb cM;have k6':=(cR hb (j:=6) (by decide) (by decide)).trans iy.out;have k3':=(cR hb (j:=3) (by decide) (by decide)).trans qn.out;have k11':=(cR hb (j:=11) (by decide) (by decide)).trans zI.out;simp[Act.eval] at k6' k3' k11';simp only[List.mem_cons,Qh,or_false] at hi;rcases hi with rfl | rfl | rfl | rfl | rfl | rfl
          all_goals first
           | (exfalso;simp at bC;done)
           | (cases ho
              try simp[Act.eval,Region.binds,gZ,go] at cM
              refine .inl ⟨by simp[Region.wanted],λw' hw'=>?_⟩;subst hw';simp[Oper.quietAt,Oper.quietUpon,execOp,go_sem,gZ,k6',k3',k11',b6,kz,p0,p1,p2,p3,p4,vE,cM])
         ·intro f listed a' hH hr;obtain⟨_,o,ho,aH⟩:=mem_ready.1 hr
          cases ho
          have hG:=hH.good;have hval:=λi hi hl=>hG.val i hi hl;have eJ:∀ k,({ on:=k,ground:=.data } : Edge)∈_->listed.getD k false=true:=λk hk=>aH _ hk rfl;have av0:=hval 0 (by simp) (eJ 0 (by simp));have av5:=hval 5 (by simp) (eJ 5 (by simp));simp[gZ,go] at av0 av5;simp only[wpOp];simp[Region.wanted];refine .inl ?_;refine Ot (R:=oe z) (M:=M) wX (.tmp 52) (.tmp 57) 52 rfl w6.heap.size uT ih (.agg #[.string ⟨#[]⟩,.string ⟨#[]⟩,.int .i64 0,.int .i64 0,.slice none 0 0,.slice none 0 0,.slice none 0 0,.slice none 0 0]) 144 underlying52 Ua T4 T5 T6 rfl (by decide) (.slice oA m oc) us av0 Dw.out.rows.row (some ⟨wC.heap.size,0,none⟩) 1 [(x,[],.slice none 0 0)] av5 (Gy rfl lF.out ji.out) (Yu z) (by rw[su.out];have:=uk.out;simp[maxLen];omega) (by rw[su.out];have:=uk.out;simp;omega) (by omega) (Cu z) (Cw z) (Cv z) ?_;intro v8 wY gl dz lM;obtain⟨A8,c8,rfl⟩:=gl.formN (n:=m+1) (by rw[List.length_append,su.out];rfl);have hzY:=dz.size;have BL:∀ k,(Value.slice oA m oc).ownBlock=some k->w6.heap.size<=k/\k<wr.heap.size:=λk e=>by have h1:=fT.out.rows.row.lt k e;exact h1
          have uZ:wY.heap[wr.heap.size]?=wX.heap[wr.heap.size]?:=dz.block _ (by omega) (λe=>by have:=(BL _ e.symm).2;omega);have pJ:wY.heap[Bh]?=wX.heap[Bh]?:=dz.block _ (by omega) (λe=>by have:=(BL _ e.symm).1;omega);have KV:wY.heap[X+1]?=wX.heap[X+1]?:=dz.block _ (by omega) (λe=>by have:=(BL _ e.symm).1;omega);replace p0:=(iQ (a:=⟨wr.heap.size,0,none⟩) uZ).trans p0;replace p1:=(iQ (a:=⟨wr.heap.size,1,none⟩) uZ).trans p1;replace p2:=(iQ (a:=⟨wr.heap.size,2,none⟩) uZ).trans p2;replace p3:=(iQ (a:=⟨wr.heap.size,3,none⟩) uZ).trans p3;replace p4:=(iQ (a:=⟨wr.heap.size,4,none⟩) uZ).trans p4;replace b6:=(iQ (a:=⟨Bh,0,none⟩) pJ).trans b6;replace kz:=(iQ (a:=⟨X+1,0,none⟩) KV).trans kz;have Hh:Hid (Boxed wY Bh 52 (.slice oA m oc)):=jq (pJ.trans ((C4.out.block Bh (by omega)).trans ((C0.out.block Bh (by omega)).trans t6.out)));have Pf:Hid (wY.heap[W.heap.size]?=wU.heap[W.heap.size]?):=jq ((dz.block _ (by omega) (λe=>by
           rcases Dw.out.own _ (.inl e.symm) with h1 | h1
           ·exact zS.out h1
           ·omega)).trans ((C4.out.block _ (by omega)).trans (C0.out.block _ (by omega))))
          have O6:Hid (Below w6.heap.size wX wY):=jq ((vQ _ _).grown dz (by omega) (λk e=>(BL k e).1));have lB:=jq (Dw.out.push gl dz lM);clear gl dz lM uZ pJ KV;refine oV (w:=wY) (D:=[0,1,2,4,3,5,6]) (A:=[6,5,3]) (p:=7) (dst:=go) (val:=gZ oA m oc z ss x.set.type x.set.life dA dn dc gA gn gc (.agg #[.string ss,.int .i64 x.set.type,.int .i64 x.set.life,.slice dA2 dn dc2,.slice gA2 gn gc2]) (.slice (some ⟨wC.heap.size,0,none⟩) 1 1) (.slice A8 (m+1) c8)) (m:=101)
           (base:=jc a0 101 zp) (oU (by kernel_rfl)) (by simp) (by simp) (mM (by kernel_rfl)) ?_
           (λi hi=>(mH i (by simp at hi |-;omega)).1) (λi hi j hj=>tM i (by simp at hi |-;omega) j (by simp at hj |-;omega)) (λi hi=>gM (mH i (by simp at hi |-;omega)).2) ?_ ?_ _ _ _ (hH.act (D':=[0,1,2,4,3,5,6]) (val':=gZ oA m oc z ss x.set.type x.set.life dA dn dc gA gn gc (.agg #[.string ss,.int .i64 x.set.type,.int .i64 x.set.life,.slice dA2 dn dc2,.slice gA2 gn gc2]) (.slice (some ⟨wC.heap.size,0,none⟩) 1 1) (.slice A8 (m+1) c8)) hr (by simp) (λi hi=>by simp at hi |-;omega) (λi hi=>by simp at hi;rcases hi with rfl | rfl | rfl | rfl | rfl | rfl <;> rfl) rfl (by simp[go]) (λj hj=>tM 6 (by simp) j (by simp at hj |-;omega) (by rintro rfl;simp at hj)) (gM (mH 6 (by simp)).2) (by simp))
          ·intro i hi bC;simp only[List.mem_cons,Qh,or_false] at hi;rcases hi with rfl | rfl | rfl | rfl | rfl | rfl | rfl
           all_goals first | (exfalso;simp at bC;done) | exact⟨_,rfl,rfl⟩
          ·intro i hi bC o ho a' hb cM;have k6':=(cR hb (j:=6) (by decide) (by decide)).trans iy.out;have k3':=(cR hb (j:=3) (by decide) (by decide)).trans qn.out;have k11':=(cR hb (j:=11) (by decide) (by decide)).trans zI.out;simp[Act.eval] at k6' k3' k11';simp only[List.mem_cons,Qh,or_false] at hi;rcases hi with rfl | rfl | rfl | rfl | rfl | rfl | rfl
           all_goals first
            | (exfalso;simp at bC;done)
            | (cases ho
               try simp[Act.eval,Region.binds,gZ,go] at cM
               refine .inl ⟨by simp[Region.wanted],λw' hw'=>?_⟩;subst hw';simp[Oper.quietAt,Oper.quietUpon,execOp,go_sem,gZ,k6',k3',k11',b6,kz,p0,p1,p2,p3,p4,vE,cM])
          ·intro f listed a' hH hr;obtain⟨_,o,ho,aH⟩:=mem_ready.1 hr
           cases ho
           have hG:=hH.good;have hval:=λi hi hl=>hG.val i hi hl;have eJ:∀ k,({ on:=k,ground:=.data } : Edge)∈_->listed.getD k false=true:=λk hk=>aH _ hk rfl;obtain⟨rfl,ip⟩:=hH.all hr (by kernel_rfl);have av6:=hval 6 (by simp) (ip 6 (by simp) (by simp));simp[Act.eval,gZ,go] at av6;have qZ:=Held.frame (D:=[0,1,2,4,3,5,6]) (dst:=go) (a0:=a0) (m:=101) hH HM.out (λi hi=>ip i (by simp at hi |-;omega) (by simp at hi;omega)) (λi hi=>(mH i (by simp at hi |-;omega)).1);simp only[wpOp];simp[Region.wanted];refine .inl ?_;have bf:=Hh.out.frozen;have k6':=(cR hG.base (j:=6) (by decide) (by decide)).trans iy.out;simp[Act.eval] at k6';simp[Oper.wp,execOp,go_sem,av6,b6,bf,k6'];refine⟨Ck (λi hi=>?_) (by rw[Array.size_setIfInBounds];exact hG.size),?_⟩
           ·by_cases hip:i=7
            ·subst hip;have hs:7<listed.size:=by rw[hG.size];exact hi
             simp[Array.getD,hs]
            ·exact qd (ip i hi hip)
           ·rw[qZ,rP.out];simp[oO,Act.put,gZ,go];clear qZ hval eJ ip aH hG hH;clear p0 p1 p2 p3 p4 b6 kz bf;obtain⟨wZ,B0⟩:∃ wZ,wY.setCell ⟨Bh,0,none⟩ (.slice A8 (m+1) c8)=wZ:=⟨_,rfl⟩;have tZ:Turned Bh wY wZ:=by rw[<-B0];exact⟨rfl,rfl,rfl,by simp[World.setCell],λi hi=>wQ _ _ _ _ hi⟩
            have hzZ:wZ.heap.size=wY.heap.size:=tZ.size;have zL:Hid (Boxed wZ Bh 52 (.slice A8 (m+1) c8)):=jq (by rw[<-B0];exact Hh.out.set _);have EK:Below w6.heap.size wU wY:=((C0.out.mono (by omega)).trans (C4.out.mono (by omega))).trans O6.out;have C3:Hid (Boxed wZ (Bh+1) 4 (.bool true)):=jq ((tZ.block (Bh+1) (by omega)).trans (cG O0.out EK (by omega)));have zK:Hid (cA (Bh+1+1) (Np.l5 ((us ++ [((x,[],.slice none 0 0):PT)]).map (·.1))) wZ):=jq ((OV.out.keep EK (by omega)).stays (tZ.block _ (by omega)));obtain⟨u1,rC⟩:∃ u1,us ++ [((x,[],.slice none 0 0):PT)]=u1:=⟨_,rfl⟩;obtain⟨M1,ET⟩:∃ M1:Nat->Prop,(λk=>M k\/(Value.slice A8 (m+1) c8).ownBlock=some k)=M1:=⟨_,rfl⟩;have nY:Hid (PubK S W₂ w6.heap.size z M1 u1 (.slice A8 (m+1) c8) wZ):=jq (by rw[<-rC,<-ET];exact lB.out.touch (.inl gd.out.1) (.inl wW.out.1) (λe=>by have:=(lB.out.rows.lt e).1;omega) tZ);have sr:Hid (M1 Bh/\M1 (Bh+1+1)/\M1 (Bh+1)):=jq (by rw[<-ET];exact⟨.inl gd.out.1,.inl gd.out.2.1,.inl gd.out.2.2⟩);rw[rC] at zK jM;have HY:Hid (u1[m]?=some (x,[],.slice none 0 0)):=jq (by rw[<-rC,<-su.out];simp);have gO:Hid (u1.length=m+1):=jq (by rw[<-rC,<-su.out];simp);have r9:Hid (([]:List Np.Span).length=0):=jq rfl;have D8:Hid (([]:List Np.Span).length<=5000):=jq (by simp);obtain⟨g,cap,KH,dm,Fp,tf⟩:=nY.out.rows.row.formSome gO.out (by omega);simp only[Value.slice.injEq] at KH;obtain⟨rfl,-,rfl⟩:=KH;have kR:Hid (∀ k,(Value.slice none 0 0).ownBlock=some k->w6.heap.size<=k/\k≠g/\k≠W.heap.size):=jq (λk e=>by cases e);have Ff:=((tZ.block _ (by omega)).trans (Pf.out.trans Pe.out)).trans lz.out;have b6:=zL.out.cell;have f6:wZ.cell? ⟨g,m * 8+6,none⟩=some (.slice none 0 0):=Fo nY.out.rows.row HY.out;have c1:wZ.cell? ⟨W.heap.size,1,none⟩=some (.int .i64 xf):=by simp[World.cell?,Ff]
            have c2:wZ.cell? ⟨W.heap.size,2,none⟩=some (.int .i64 xt):=by simp[World.cell?,Ff]
            have nJ:(0:Int)<=(m:Int):=by omega
            have jD:(m:Int)<(m:Int)+1:=by omega
            have nA:decide ((20000:Int)<(m:Int)+1)=false:=tQ (by have:=uk.out;omega);have T3:decide (20000<m+1)=false:=tQ (by have:=uk.out;omega);rw[B0];have T2:W.heap.size<wZ.heap.size:=by omega
            clear Ff tf EK tZ B0 rC ET;gi_wp2_with fail;refine CI λa0 fh=>?_;have rP:=jq fh;have iy:=jq (show a0.eval (.tmp 6) = .pointer (some ⟨Bh,0,none⟩) by rw[fh];rfl);have rR:=jq (show a0.eval (.tmp 13) = .int .i64 (m:Nat) by rw[fh];rfl);have rS:=jq (show a0.eval (.tmp 9) = .pointer (some ⟨W.heap.size,0,none⟩) by rw[fh];rfl);have HM:=jq (show a0.tmps.size=101 by rw[fh];rfl);clear fh;refine G0 (by kernel_rfl) (by kernel_rfl) (by rintro⟨_,_,h⟩;exact h) ?_;refine oV (w:=wZ.drew) (D:=[0,1,2,3,4,5,6,7,8,9,10,11,14,15]) (A:=[]) (p:=12) (dst:=dR) (val:=dY g (m+1) c8 m none 0 0 W.heap.size xf xt undef undef) (m:=101)
             (base:=jc a0 101 tN) (oU (by kernel_rfl)) (by simp) (by simp) (mM (by kernel_rfl)) ?_
             (λi hi=>(ja i (by simp at hi |-;omega)).1) (λi hi j hj=>oM i (by simp at hi |-;omega) j (by simp at hj |-;omega)) (λi hi=>gM (ja i (by simp at hi |-;omega)).2) ?_ ?_ _ _ _ (Held.start (λq hq=>Cq q hq) HM.out)
            ·intro i hi bC;simp only[List.mem_cons,Qh,or_false] at hi;rcases hi with rfl | rfl | rfl | rfl | rfl | rfl | rfl | rfl | rfl | rfl | rfl | rfl | rfl | rfl
             all_goals first | (exfalso;simp at bC;done) | exact⟨_,rfl,rfl⟩
            ·intro i hi bC o ho a' hb cM;have k6':=(cR hb (j:=6) (by decide) (by decide)).trans iy.out;have k13':=(cR hb (j:=13) (by decide) (by decide)).trans rR.out;have k9':=(cR hb (j:=9) (by decide) (by decide)).trans rS.out;simp[Act.eval] at k6' k13' k9';simp only[List.mem_cons,Qh,or_false] at hi;rcases hi with rfl | rfl | rfl | rfl | rfl | rfl | rfl | rfl | rfl | rfl | rfl | rfl | rfl | rfl
             all_goals first
              | (exfalso;simp at bC;done)
              | (cases ho
                 try simp[Act.eval,Region.binds,dY,dR] at cM
                 refine .inl ⟨by simp[Region.wanted],λw' hw'=>?_⟩;subst hw';simp[Oper.quietAt,Oper.quietUpon,execOp,go_sem,dY,k6',k13',k9',b6,f6,c1,c2,nJ,jD,cM])
            ·intro f listed a' hH hr;obtain⟨_,o,ho,aH⟩:=mem_ready.1 hr
             cases ho
             have hG:=hH.good;have hval:=λi hi hl=>hG.val i hi hl;have eJ:∀ k,({ on:=k,ground:=.data } : Edge)∈_->listed.getD k false=true:=λk hk=>aH _ hk rfl;have av11:=hval 11 (by simp) (eJ 11 (by simp));simp[Act.eval,dY,dR] at av11;simp only[wpOp];simp[Region.wanted];refine .inl ?_;simp[Oper.wp,execOp,go_sem,av11];obtain⟨wA,nM⟩:∃ W',W'=(wZ.alloc (.cells #[.int .i64 xf,.int .i64 xt] 110)).drew:=⟨_,rfl⟩;rw[<-nM];have kx:Below wZ.heap.size wZ wA:=by rw[nM];exact ((vQ _ _).alloc (bQ _) _).drew
             have Vz:wA.heap.size=wZ.heap.size+1:=by rw[nM];simp[World.drew]
             have wt:Hid (wA.cell? ⟨wZ.heap.size,0,none⟩=some (.int .i64 xf)/\wA.cell? ⟨wZ.heap.size,1,none⟩=some (.int .i64 xt)):=jq (by rw[nM];exact⟨by simp[go_sem],by simp[go_sem]⟩);replace b6:=(cl kx (by omega)).trans b6;replace f6:=(cl kx (by omega)).trans f6;replace c1:=(cl kx (by omega)).trans c1;replace c2:=(cl kx (by omega)).trans c2;have sh:=jq (nY.out.keep kx);have eW:=jq kx;clear nM kx;refine oV (w:=wA) (D:=[0,1,2,3,4,5,6,7,8,9,10,11,14,15,12]) (A:=[12]) (p:=13) (dst:=dR) (val:=dY g (m+1) c8 m none 0 0 W.heap.size xf xt (.slice (some ⟨wZ.heap.size,0,none⟩) 1 1) undef) (m:=101)
              (base:=jc a0 101 tN) (oU (by kernel_rfl)) (by simp) (by simp) (mM (by kernel_rfl)) ?_
              (λi hi=>(ja i (by simp at hi |-;omega)).1) (λi hi j hj=>oM i (by simp at hi |-;omega) j (by simp at hj |-;omega)) (λi hi=>gM (ja i (by simp at hi |-;omega)).2) ?_ ?_ _ _ _ (hH.act (D':=[0,1,2,3,4,5,6,7,8,9,10,11,14,15,12]) (val':=dY g (m+1) c8 m none 0 0 W.heap.size xf xt (.slice (some ⟨wZ.heap.size,0,none⟩) 1 1) undef) hr (by simp) (λi hi=>by simp at hi |-;omega) (λi hi=>by simp at hi;rcases hi with rfl | rfl | rfl | rfl | rfl | rfl | rfl | rfl | rfl | rfl | rfl | rfl | rfl | rfl <;> rfl) rfl (by simp[dR]) (λj hj=>oM 12 (by simp) j (by simp at hj |-;omega) (by rintro rfl;simp at hj)) (gM (ja 12 (by simp)).2) (by simp))
             ·intro i hi bC;simp only[List.mem_cons,Qh,or_false] at hi;rcases hi with rfl | rfl | rfl | rfl | rfl | rfl | rfl | rfl | rfl | rfl | rfl | rfl | rfl | rfl | rfl
              all_goals first | (exfalso;simp at bC;done) | exact⟨_,rfl,rfl⟩
             ·intro i hi bC o ho a' hb cM;have k6':=(cR hb (j:=6) (by decide) (by decide)).trans iy.out;have k13':=(cR hb (j:=13) (by decide) (by decide)).trans rR.out;have k9':=(cR hb (j:=9) (by decide) (by decide)).trans rS.out;simp[Act.eval] at k6' k13' k9';simp only[List.mem_cons,Qh,or_false] at hi;rcases hi with rfl | rfl | rfl | rfl | rfl | rfl | rfl | rfl | rfl | rfl | rfl | rfl | rfl | rfl | rfl
              all_goals first
               | (exfalso;simp at bC;done)
               | (cases ho
                  try simp[Act.eval,Region.binds,dY,dR] at cM
                  refine .inl ⟨by simp[Region.wanted],λw' hw'=>?_⟩;subst hw';simp[Oper.quietAt,Oper.quietUpon,execOp,go_sem,dY,k6',k13',k9',b6,f6,c1,c2,nJ,jD,cM])
             ·intro f listed a' hH hr;obtain⟨_,o,ho,aH⟩:=mem_ready.1 hr
              cases ho
              have hG:=hH.good;have hval:=λi hi hl=>hG.val i hi hl;have eJ:∀ k,({ on:=k,ground:=.data } : Edge)∈_->listed.getD k false=true:=λk hk=>aH _ hk rfl;have av6:=hval 6 (by simp) (eJ 6 (by simp));have av12:=hval 12 (by simp) (eJ 12 (by simp));simp[dY,dR] at av6 av12;simp only[wpOp];simp[Region.wanted];refine .inl ?_;refine Ou wA (.tmp 68) (.tmp 74) rfl w6.heap.size (.slice none 0 0) [] av6 (sh.out.rows.fresh _ (gQ HY.out)) wZ.heap.size xf xt av12 wt.out.1 wt.out.2 (by have:=D8.out;omega) (by omega) ?_;intro v8 wB gl dz lM;obtain⟨eA,ec,rfl⟩:=MG gl (n:=1) (by rw[List.length_append,r9.out];rfl);have VB:=dz.size;have ffA:wA.frozen? ⟨g,m * 8+6,none⟩=false:=sh.out.rows.row.frozenAt gO.out _;have pJ:wB.heap[Bh]?=wA.heap[Bh]?:=dz.block Bh (by omega) (λe=>by have:=(kR.out Bh e.symm).1;omega);have tm:wB.heap[g]?=wA.heap[g]?:=dz.block g (by omega) (λe=>(kR.out g e.symm).2.1 rfl);have tk:wB.heap[W.heap.size]?=wA.heap[W.heap.size]?:=dz.block W.heap.size (by omega) (λe=>(kR.out _ e.symm).2.2 rfl);replace b6:=(iQ (a:=⟨Bh,0,none⟩) pJ).trans b6;replace f6:=(iQ (a:=⟨g,m * 8+6,none⟩) tm).trans f6;replace c1:=(iQ (a:=⟨W.heap.size,1,none⟩) tk).trans c1;replace c2:=(iQ (a:=⟨W.heap.size,2,none⟩) tk).trans c2;have ff:=(World.frozen?_of_block (a:=⟨g,m * 8+6,none⟩) tm).trans ffA;have H8:=jq (And.intro gl (And.intro dz lM));clear gl dz lM pJ tm tk ffA;refine oV (w:=wB) (D:=[0,1,2,3,4,5,6,7,8,9,10,11,14,15,12,13]) (A:=[13,12]) (p:=16) (dst:=dR) (val:=dY g (m+1) c8 m none 0 0 W.heap.size xf xt (.slice (some ⟨wZ.heap.size,0,none⟩) 1 1) (.slice eA 1 ec)) (m:=101)
               (base:=jc a0 101 tN) (oU (by kernel_rfl)) (by simp) (by simp) (mM (by kernel_rfl)) ?_
               (λi hi=>(ja i (by simp at hi |-;omega)).1) (λi hi j hj=>oM i (by simp at hi |-;omega) j (by simp at hj |-;omega)) (λi hi=>gM (ja i (by simp at hi |-;omega)).2) ?_ ?_ _ _ _ (hH.act (D':=[0,1,2,3,4,5,6,7,8,9,10,11,14,15,12,13]) (val':=dY g (m+1) c8 m none 0 0 W.heap.size xf xt (.slice (some ⟨wZ.heap.size,0,none⟩) 1 1) (.slice eA 1 ec)) hr (by simp) (λi hi=>by simp at hi |-;omega) (λi hi=>by simp at hi;rcases hi with rfl | rfl | rfl | rfl | rfl | rfl | rfl | rfl | rfl | rfl | rfl | rfl | rfl | rfl | rfl <;> rfl) rfl (by simp[dR]) (λj hj=>oM 13 (by simp) j (by simp at hj |-;omega) (by rintro rfl;simp at hj)) (gM (ja 13 (by simp)).2) (by simp))
              ·intro i hi bC;simp only[List.mem_cons,Qh,or_false] at hi;rcases hi with rfl | rfl | rfl | rfl | rfl | rfl | rfl | rfl | rfl | rfl | rfl | rfl | rfl | rfl | rfl | rfl
               all_goals first | (exfalso;simp at bC;done) | exact⟨_,rfl,rfl⟩
              ·intro i hi bC o ho a' hb cM;have k6':=(cR hb (j:=6) (by decide) (by decide)).trans iy.out;have k13':=(cR hb (j:=13) (by decide) (by decide)).trans rR.out;have k9':=(cR hb (j:=9) (by decide) (by decide)).trans rS.out;simp[Act.eval] at k6' k13' k9';simp only[List.mem_cons,Qh,or_false] at hi;rcases hi with rfl | rfl | rfl | rfl | rfl | rfl | rfl | rfl | rfl | rfl | rfl | rfl | rfl | rfl | rfl | rfl
               all_goals first
                | (exfalso;simp at bC;done)
                | (cases ho
                   try simp[Act.eval,Region.binds,dY,dR] at cM
                   refine .inl ⟨by simp[Region.wanted],λw' hw'=>?_⟩;subst hw';simp[Oper.quietAt,Oper.quietUpon,execOp,go_sem,dY,k6',k13',k9',b6,f6,c1,c2,nJ,jD,cM])
              ·intro f listed a' hH hr;obtain⟨_,o,ho,aH⟩:=mem_ready.1 hr
               cases ho
               have hG:=hH.good;have hval:=λi hi hl=>hG.val i hi hl;have eJ:∀ k,({ on:=k,ground:=.data } : Edge)∈_->listed.getD k false=true:=λk hk=>aH _ hk rfl;obtain⟨rfl,ip⟩:=hH.all hr (by kernel_rfl);have av13:=hval 13 (by simp) (ip 13 (by simp) (by simp));have av15:=hval 15 (by simp) (ip 15 (by simp) (by simp));simp[Act.eval,dY,dR] at av13 av15;have qZ:=Held.frame (D:=[0,1,2,3,4,5,6,7,8,9,10,11,14,15,12,13]) (dst:=dR) (a0:=a0) (m:=101) hH HM.out (λi hi=>ip i (by simp at hi |-;omega) (by simp at hi;omega)) (λi hi=>(ja i (by simp at hi |-;omega)).1);simp only[wpOp];simp[Region.wanted];refine .inl ?_;simp[Oper.wp,execOp,go_sem,av13,av15,f6,ff];refine⟨Ck (λi hi=>?_) (by rw[Array.size_setIfInBounds];exact hG.size),?_⟩
               ·by_cases hip:i=16
                ·subst hip;have hs:16<listed.size:=by rw[hG.size];exact hi
                 simp[Array.getD,hs]
                ·exact qd (ip i hi hip)
               ·rw[qZ,rP.out];simp[oO,Act.put,dY,dR];clear qZ hval eJ ip aH hG hH;clear b6 f6 c1 c2 ff;obtain⟨W',hW'⟩:∃ W',wB.setCell ⟨g,m * 8+6,none⟩ (.slice eA 1 ec)=W':=⟨_,rfl⟩;have Dj:Hid (PubK S W₂ w6.heap.size z (λk=>M1 k\/(Value.slice eA 1 ec).ownBlock=some k) (u1.set m (x,[] ++ [⟨xf,xt⟩],.slice eA 1 ec)) (.slice (some ⟨g,0,none⟩) (m+1) c8) W'):=jq (by rw[<-hW'];exact sh.out.changed gO.out HY.out H8.out.2.1 H8.out.1 H8.out.2.2);have fH:Hid (Below w6.heap.size wZ W'):=jq (by rw[<-hW'];exact ((eW.out.mono (by omega)).trans ((vQ _ _).grown H8.out.2.1 (by omega) (λk e=>(kR.out k e).1))).setCell (by dsimp only;omega) _);have D2:Hid ((u1.set m (x,[] ++ [(⟨xf,xt⟩:Np.Span)],Value.slice eA 1 ec)).map (·.1)=u1.map (·.1)):=jq (Ny HY.out rfl);rw[hW'];have B3:W'.heap.size=wB.heap.size:=by rw[<-hW'];simp[World.setCell]
                gi_wp2_with fail;go_roundw
                case measure=>simp[intOf] <;> omega
                case rel=>exact⟨j+1,_,_,_,by omega,by go_num,by omega,jq (cG zL.out fH.out (by omega)),jq (cG C3.out fH.out (by omega)),jq (by rw[D2.out];exact zK.out.keep fH.out (by omega)),Dj,jq ⟨.inl sr.out.1,.inl sr.out.2.1,.inl sr.out.2.2⟩,jq (jM.out _)⟩
     ·obtain rfl:j=xn:=by omega
      obtain⟨Ka,Kb⟩:=fT.out.stop;have DW:=jq Ka;have wR:=jq Kb;have Qj:Hid (RdStep (λk=>k=Bh\/k=Bh+1\/k=Bh+1+1) w6 wr):=jq (un.out.trans fT.out.rd (λk e=>by have:=eP.out k e;omega));clear Ka Kb;gi_wp2_with fail;refine⟨λk=>S k\/(W₂.heap.size<=k/\k<wr.heap.size),fT.out.rd.mono (λk e=>.inl e),λk e=>?_,λk e=>?_,us,ov,_,.inl wW.out.1,.inl wW.out.2.1,.inl wW.out.2.2,wR.out,λk e=>?_,λk e=>.inr e,.inl gd.out.1,.inl gd.out.2.2,.inl gd.out.2.1,t8.out,?_,Hf.out,DW.out,?_,Qj.out⟩
      ·rcases e with e | e
       ·exact .inl (.inl e)
       ·exact .inr e.1
      ·rcases e with e | e
       ·have:=Qp.out k e;omega
       ·exact e.2
      ·rcases e with e | e
       ·exact eP.out k e
       ·right;right;right;omega
      ·have e:(!(pre ++ [((⟨xh,xf,xt,xs,xA,j,xc⟩,cc):CV×Np.Copy)]).isEmpty)=true:=by simp
       rw[e];exact Hk.out
      ·rw[nT.out,<-Xl I4.out];exact kn.out
end
end Go.Proofs.YtfnopgdcaanaiaaGreatDoor
