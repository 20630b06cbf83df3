/- Parts of the proof. No condition. -/
import Derived.Deep.WholeRow
import Derived.Test.YtfnopgdcaanaiaaGreatDoorT24
import Derived.Test.YtfnopgdcaanaiaaGreatDoorT26
import Derived.Test.YtfnopgdcaanaiaaGreatDoorT27
import Derived.Test.YtfnopgdcaanaiaaGreatDoorT28
import Derived.Test.YtfnopgdcaanaiaaGreatDoorT29
set_option linter.all false
set_option maxRecDepth 100000
set_option maxHeartbeats 8000000
namespace Go.Proofs.YtfnopgdcaanaiaaGreatDoor
open Go.Proofs.Tryz
section
open Go.RowKit Go.Shelf Go.MapKept
attribute [local go_sem] Oper.semAt_some CV.cells
def tz(z:ByteArray):Value->Value
 | .agg xs=>.agg (#[.string z]++xs ++ #[.slice none 0 0,.slice none 0 0])
 | _=>undef
def xr:Value->Value
 | .tuple xs=>xs.getD 0 undef
 | _=>undef
def Bf:Value->Value
 | .tuple xs=>xs.getD 1 undef
 | _=>undef
def eu(g n cap q:Nat)(fA:Option Addr)(fn fc cb:Nat)(xf xt:Int)(e12:Value)(e13:Value)(i:Nat):Value:=[.slice (some ⟨g,0,none⟩) n cap,.int .i64 (q:Nat),.slice (some ⟨g,0,none⟩) n cap,.int .i64 (q:Nat),.pointer (some ⟨g,q * 8,none⟩),.pointer (some ⟨g,q * 8+6,none⟩),.slice fA fn fc,.pointer (some ⟨cb,1,none⟩),.int .i64 xf,.pointer (some ⟨cb,2,none⟩),.int .i64 xt,.agg #[.int .i64 xf,.int .i64 xt],e12,e13,.pointer (some ⟨g,q * 8,none⟩),.pointer (some ⟨g,q * 8+6,none⟩),undef].getD i undef
def gN(i:Nat):Nat:=[62,63,64,65,66,67,68,69,70,71,72,73,74,75,76,77,0].getD i 0
def Wl:List Nat:=[0,1,2,3,4,5,6,7,8,9,10,11,14,15,12,13].map gN
theorem la:∀ i∈[0,1,2,3,4,5,6,7,8,9,10,11,14,15,12,13],gN i<101/\gN i∈Wl:=by decide
theorem mT:∀ i∈[0,1,2,3,4,5,6,7,8,9,10,11,14,15,12,13],∀ j∈[0,1,2,3,4,5,6,7,8,9,10,11,14,15,12,13],j≠i->gN i≠gN j:=by decide
def iv(oA:Option Addr)(m oc:Nat)(z ss:ByteArray)(sty slf:Int)(dA:Option Addr)(dn dc:Nat)(gA:Option Addr)(gn gc:Nat)(e3:Value)(e5:Value)(e6:Value)(i:Nat):Value:=[.slice oA m oc,.string z,.agg #[.string ss,.int .i64 sty,.int .i64 slf,.slice dA dn dc,.slice gA gn gc],e3,tz z e3,e5,e6,undef].getD i undef
def jN(i:Nat):Nat:=[52,53,54,55,56,57,58,0].getD i 0
def Wj:List Nat:=[0,1,2,4,3,5,6].map jN
theorem pN:∀ i∈[0,1,2,4,3,5,6],jN i<101/\jN i∈Wj:=by decide
theorem rt:∀ i∈[0,1,2,4,3,5,6],∀ j∈[0,1,2,4,3,5,6],j≠i->jN i≠jN j:=by decide
def lh(g n cap q:Nat)(fA:Option Addr)(fn fc:Nat)(e7:Value)(i:Nat):Value:=[.slice (some ⟨g,0,none⟩) n cap,.int .i64 (q:Nat),.slice (some ⟨g,0,none⟩) n cap,.int .i64 (q:Nat),.pointer (some ⟨g,q * 8,none⟩),.pointer (some ⟨g,q * 8+6,none⟩),.slice fA fn fc,e7,e7,xr e7,Bf e7,.pointer (some ⟨g,q * 8,none⟩),.pointer (some ⟨g,q * 8+6,none⟩),undef].getD i undef
def ld(i:Nat):Nat:=[87,88,89,90,91,92,93,94,86,95,96,97,98,0].getD i 0
def Wm:List Nat:=[0,1,2,3,4,5,6,8,9,10,11,12,7].map ld
theorem Bd:∀ i∈[0,1,2,3,4,5,6,8,9,10,11,12,7],ld i<101/\ld i∈Wm:=by decide
theorem Be:∀ i∈[0,1,2,3,4,5,6,8,9,10,11,12,7],∀ j∈[0,1,2,3,4,5,6,8,9,10,11,12,7],j≠i->ld i≠ld j:=by decide
def psP(PP:List (Np.Span×Np.Signed))(sp:Np.Span)(sets:List Np.Signed)(j:Nat):List (Np.Span×Np.Signed):=PP++(sets.take j).map λs=>(sp,s)
theorem Wi(PP:List (Np.Span×Np.Signed))(sp:Np.Span)(sets:List Np.Signed):psP PP sp sets 0=PP:=by simp[psP]
theorem We{PP:List (Np.Span×Np.Signed)}{sp:Np.Span}{sets:List Np.Signed}{j:Nat}(h:sets.length=j):psP PP sp sets j=PP++sets.map λs=>(sp,s):=by unfold psP;rw[kQ (by omega)]
theorem Wh{PP:List (Np.Span×Np.Signed)}{sp:Np.Span}{sets:List Np.Signed}{j:Nat}{x:Np.Signed}(h:sets[j]?=some x):psP PP sp sets (j+1)=psP PP sp sets j ++ [(sp,x)]:=by
 obtain⟨hl,he⟩:=cQ.1 h;unfold psP;rw[fQ hl,he,List.map_append,List.append_assoc];rfl
theorem Wg{PP:List (Np.Span×Np.Signed)}{sp:Np.Span}{sets:List Np.Signed}{j:Nat}{p:Np.Span×Np.Signed}(h:p∈psP PP sp sets j):p∈PP++sets.map λs=>(sp,s):=by
 rcases List.mem_append.1 h with h | h
 ·exact List.mem_append.2 (.inl h)
 ·obtain⟨s,hs,rfl⟩:=List.mem_map.1 h;exact List.mem_append.2 (.inr (List.mem_map.2 ⟨s,List.mem_of_mem_take hs,rfl⟩))
theorem Wf(PP:List (Np.Span×Np.Signed))(sp:Np.Span)(sets:List Np.Signed)(j:Nat):(psP PP sp sets j).length<=(PP++sets.map λs=>(sp,s)).length:=by
 unfold psP;simp only[List.length_append,List.length_map,List.length_take];omega
theorem Wd{a b:List (CV×Np.Copy)}(h:a <+: b):∃ c,((b.map (·.2)).flatMap Np.kZ)=((a.map (·.2)).flatMap Np.kZ)++c:=by
 obtain⟨c,rfl⟩:=h;exact⟨(c.map (·.2)).flatMap Np.kZ,by rw[List.map_append,List.flatMap_append]⟩
def yP(w6:World)(bo bt bm:Nat)(zn:ByteArray)(pre:List (CV×Np.Copy))(S:Nat->Prop)(W:World):Prop:=
 ∃ (xs:List PT) (ov:Value) (M:Nat->Prop),S bo/\S bt/\S bm/\(∀ k,oR xs ov k->S k)/\(∀ k,S k->k=bo\/k=bt\/k=bm\/w6.heap.size<=k)/\(∀ k,¬ S k->M k)/\M bo/\M bt/\M bm/\
   Boxed W bo 52 ov/\Boxed W bt 4 (.bool (!pre.isEmpty))/\bR bm (Np.kl (xs.map (·.1))) W/\PubR w6.heap.size M zn xs ov W/\xs.map (λx=>(x.1,x.2.1))=Np.cY ((pre.map (·.2)).flatMap Np.kZ)/\RdStep (λk=>k=bo\/k=bt\/k=bm) w6 W
theorem Lb(w6:World)(bo bt bm:Nat)(zn:ByteArray):dE w6.heap.size (yP w6 bo bt bm zn):=by
 rintro pre S W W' ⟨xs,ov,M,h1,h2,h3,h4,h5,h6,m1,m2,m3,h7,h8,h9,uN,Dt,oZ⟩ ak;refine⟨xs,ov,M,h1,h2,h3,h4,h5,h6,m1,m2,m3,fd h7 ak h1,fd h8 ak h2,h9.stays (ak.keep bm h9.lt (.inr h3)),?_,Dt,⟨ak.os.trans oZ.os,ak.tape.trans oZ.tape,ak.output.trans oZ.output,yQ oZ.size ak.size,λk hk sJ=>(ak.keep k (lQ hk oZ.size) (.inl hk)).trans (oZ.keep k hk sJ)⟩⟩;exact uN.leaves ⟨ak.os,ak.tape,ak.output,ak.size,λi hi hm=>⟨hm,ak.keep i hi (.inr (Classical.byContradiction λhs=>hm (h6 i hs)))⟩⟩ (λg hg=>⟨ak.keep g (uN.lt hg).2.1 (.inr (h4 g hg)),(uN.lt hg).2.2⟩)
theorem Wp{w6:World}{bo bt bm:Nat}{zn:ByteArray}{pre:List (CV×Np.Copy)}{S:Nat->Prop}{W W':World}(h:yP w6 bo bt bm zn pre S W)(hb:Below W.heap.size W W'):yP w6 bo bt bm zn pre S W':=by
 obtain⟨xs,ov,M,h1,h2,h3,h4,h5,h6,m1,m2,m3,h7,h8,h9,uN,Dt,oZ⟩:=h;exact⟨xs,ov,M,h1,h2,h3,h4,h5,h6,m1,m2,m3,aX h7 hb h7.lt,aX h8 hb h8.lt,h9.keep hb h9.lt,uN.keep hb,Dt,oZ.then_below hb⟩
theorem H7{w:World}{B:Nat}{L:List (CV×Np.Copy)}(h:∀ x∈L,CVOf w B x.1 x.2)(z:List UInt8):((L.filter λx=>x.1.str.data.toList == z).map (·.2)).flatMap Np.kZ=Np.ci (L.map (·.2)) z:=by
 unfold Np.ci Np.qA;congr 1
 induction L with
 | nil=>rfl
 | cons x L ih=>
  have hx:=h x (by simp);have ih:=ih (λy hy=>h y (mQ _ hy));rw[List.map_cons,List.filter_cons,List.filter_cons,hx.apex];split
  ·rw[List.map_cons,ih]
  ·exact ih
theorem Wy(e:List Value)(h:Np.Hist)(hf:Np.xP h)(J9:Np.kC h)(z:ByteArray)(hz:z.size<=140737488355328)(hp:(Np.ci h.copies z.data.toList).length<=5000)(w:World)(hR:dS w w.heap.size)(hP:fG w)(hh:oS w w.heap.size e h) :
 Calls prog 61 #[.agg e.toArray,.string z] w λe w'=>((¬ Np.qv h z.data.toList/\e = .returned (.tuple #[.slice none 0 0,.int .i64 1]))\/(Np.qv h z.data.toList/\((¬ Np.rZ h z.data.toList/\e = .returned (.tuple #[.slice none 0 0,.int .i64 4]))\/(Np.rZ h z.data.toList/\∃ v',e = .returned (.tuple #[v',.int .i64 0])/\bw fU 8 0 w.heap.size w' v' (Np.pub h.copies z.data.toList)))))/\Below w.heap.size w w':=by
 have CB:=jq hh;obtain⟨hv,cv,s,dv,cW,rfl,aN,fj,h3,h4,h5,h6⟩:=hh;obtain⟨ty,gH⟩:=abY h.anchor.type;obtain⟨life,An⟩:=abY h.anchor.life;obtain⟨drift,Jm⟩:=abY h.drift;obtain⟨stop,jl⟩:=abY h.stop;have H3:=jq h3;have H4:=jq h4;have H5:=jq h5;have H6:=jq h6;have HS:=jq (And.intro aN fj);have qa:=jq hf;have dP:=jq jl;have jU:=jq (And.intro gH An);obtain⟨A1,c1,rfl,_,_⟩:=ar h3;obtain⟨A2,c2,rfl,_,_⟩:=ar h4;obtain⟨A3,c3,rfl,_,_⟩:=ar h5;obtain⟨A4,c4,rfl,_,_⟩:=ar h6;clear h3 h4 h5 h6 aN fj hf;obtain⟨n1,co⟩:=abY h.hosts.length;obtain⟨n2,dj⟩:=abY h.copies.length;obtain⟨n3,fL⟩:=abY h.anchor.data.length;obtain⟨n4,ga⟩:=abY h.hints.length;rw[co] at H3;rw[dj] at H4;rw[fL] at H5;rw[ga] at H6;rw[co,dj,fL,ga,gH,An,Jm,jl] at CB |-;have iD:=jq dj;clear co dj fL ga gH An Jm jl;obtain⟨r,hr⟩:=abY (Np.yes (Np.VHist h));have qr:=jq hr;clear hr;obtain⟨X,hX⟩:=abY w.heap.size;obtain⟨W1,aw⟩:=abY ((((w.alloc (.cells #[.slice A1 n1 c1,.slice A2 n2 c2,.string s,.int .i64 ty,.int .i64 life,.slice A3 n3 c3,.slice A4 n4 c4,.int .i64 drift,.int .i64 stop] 29)).alloc (.cells #[.string z] 9)).alloc (.cells #[.slice none 0 0] 52)).alloc (.cells #[.int .i64 0] 37));have aV:Below w.heap.size w W1:=by rw[<-aw];exact ((((vQ _ _).alloc (bQ _) _).alloc (by simp <;> omega) _).alloc (by simp <;> omega) _).alloc (by simp <;> omega) _
 have xa:W1.heap.size=X+4:=by rw[<-aw,<-hX];simp
 have k0:W1.cell? ⟨X,0,none⟩=some (.slice A1 n1 c1):=by rw[<-aw,<-hX];simp[go_sem]
 have k1:W1.cell? ⟨X,1,none⟩=some (.slice A2 n2 c2):=by rw[<-aw,<-hX];simp[go_sem]
 have k2:W1.cell? ⟨X,2,none⟩=some (.string s):=by rw[<-aw,<-hX];simp[go_sem]
 have k3:W1.cell? ⟨X,3,none⟩=some (.int .i64 ty):=by rw[<-aw,<-hX];simp[go_sem]
 have k4:W1.cell? ⟨X,4,none⟩=some (.int .i64 life):=by rw[<-aw,<-hX];simp[go_sem]
 have k5:W1.cell? ⟨X,5,none⟩=some (.slice A3 n3 c3):=by rw[<-aw,<-hX];simp[go_sem]
 have k6:W1.cell? ⟨X,6,none⟩=some (.slice A4 n4 c4):=by rw[<-aw,<-hX];simp[go_sem]
 have k7:W1.cell? ⟨X,7,none⟩=some (.int .i64 drift):=by rw[<-aw,<-hX];simp[go_sem]
 have k8:W1.cell? ⟨X,8,none⟩=some (.int .i64 stop):=by rw[<-aw,<-hX];simp[go_sem]
 have kz:W1.cell? ⟨X+1,0,none⟩=some (.string z):=by rw[<-aw,<-hX];simp[go_sem]
 have HO:Hid (Boxed W1 (X+1+1) 52 (.slice none 0 0)):=jq (by
  rw[<-aw,<-hX]
  have:=(Boxed.new ((w.alloc (.cells #[.slice A1 n1 c1,.slice A2 n2 c2,.string s,.int .i64 ty,.int .i64 life,.slice A3 n3 c3,.slice A4 n4 c4,.int .i64 drift,.int .i64 stop] 29)).alloc (.cells #[.string z] 9)) 52 (.slice none 0 0)).alloc (.cells #[.int .i64 0] 37)
  simpa using this)
 have HE:Hid (Boxed W1 (X+1+1+1) 37 (.int .i64 0)):=jq (by
  rw[<-aw,<-hX]
  have:=Boxed.new (((w.alloc (.cells #[.slice A1 n1 c1,.slice A2 n2 c2,.string s,.int .i64 ty,.int .i64 life,.slice A3 n3 c3,.slice A4 n4 c4,.int .i64 drift,.int .i64 stop] 29)).alloc (.cells #[.string z] 9)).alloc (.cells #[.slice none 0 0] 52)) 37 (.int .i64 0)
  simpa using this)
 have gw:=jq hR;have no:=jq hP;have CE:=jq J9;have ly:=jq hp;have qc:Hid (1<w.heap.size):=jq hP.lt;rw[hX] at aV H3 H4 H5 H6 CB gw qc |-;have bg:=jq aV;clear aV hR hP J9 hp;refine (callsIn_wide (n:=0)).1 ?_;refine callsIn_of_wp_marks func61 rfl trivial ?_ rfl;simp only[ntmps61,List.size_toArray,List.length_cons,List.length_nil,Nat.reduceAdd,Nat.reduceSub,Array.replicate_succ,Array.replicate_zero,List.push_toArray,List.append_toArray,List.nil_append,List.cons_append];gi_wp2_with fail;refine⟨trivial,rfl,?_⟩;refine (callsIn_wide.2 (SP _ h qa.out W1 ((gw.out.keep bg.out).more (by omega)) (Lo _ _ _ _ _ (Ln _ _ _ _ _ CB.out bg.out) (by omega)))).mono ?_;rw[qr.out];rintro e w2 ⟨rfl,ab⟩;have aC:=ab.size;have m0:=aaJ ab k0;have m1:=aaJ ab k1;have m2:=aaJ ab k2;have m3:=aaJ ab k3;have m4:=aaJ ab k4;have m5:=aaJ ab k5;have m6:=aaJ ab k6;have m7:=aaJ ab k7;have m8:=aaJ ab k8;have mz:=aaJ ab kz;have bV:=jq (aeX HO.out ab);have rN:=jq (aeX HE.out ab);have ai:=aaK bg ab;clear ab aw hX k0 k1 k2 k3 k4 k5 k6 k7 k8 kz
 cases r with
 | false=>
  have HN:Hid (¬ Np.VHist h):=jq (λh=>by have:=Np.dz h;rw[qr.out] at this;cases this);have y0:=bV.out.cell;have y1:=bV.out.frozen;have z0:=rN.out.cell;have z1:=rN.out.frozen;gi_wp2_with fail;refine⟨trivial,?_⟩;gi_wp2_with fail;obtain⟨W,hW⟩:=abY ((w2.setCell ⟨X+1+1,0,none⟩ (.slice none 0 0)).setCell ⟨X+1+1+1,0,none⟩ (.int .i64 1));have B3:Hid (Below X w W):=jq (by rw[<-hW];exact ((ai.out.setCell (p:=⟨X+1+1,0,none⟩) (by dsimp only;omega) _).setCell (p:=⟨X+1+1+1,0,none⟩) (by dsimp only;omega) _));have e0:W.cell? ⟨X+1+1,0,none⟩=some (.slice none 0 0):=by rw[<-hW];simp[go_sem,y0]
  have e1:W.cell? ⟨X+1+1+1,0,none⟩=some (.int .i64 1):=by rw[<-hW];simp[go_sem,z0]
  rw[hW];exact j6 (v:=.tuple #[.slice none 0 0,.int .i64 1]) (by simp[results,results61,go_sem,e0,e1]) ⟨.inl ⟨λh=>HN.out h.1,rfl⟩,B3.out⟩
 | true=>
  have HV:Hid (Np.VHist h):=jq (Np.iz.1 qr.out);gi_wp2_with fail;refine⟨trivial,rfl,?_⟩;refine (callsIn_wide.2 (nameValid_any z hz _)).mono ?_;rintro e w3 ⟨rfl,ae⟩;have gh:=ae.size;replace m0:=aaJ ae m0;replace m1:=aaJ ae m1;replace m2:=aaJ ae m2;replace m3:=aaJ ae m3;replace m4:=aaJ ae m4;replace m5:=aaJ ae m5;replace m6:=aaJ ae m6;replace m7:=aaJ ae m7;replace m8:=aaJ ae m8;replace mz:=aaJ ae mz;have fp:=jq (aeX bV.out ae);have B6:=jq (aeX rN.out ae);have ay:=aaK ai ae;clear ae
  cases fB:Np.aG z.data.toList with
  | false=>
   have ky:=jq fB;clear fB;have y0:=fp.out.cell;have y1:=fp.out.frozen;have z0:=B6.out.cell;have z1:=B6.out.frozen;gi_wp2_with fail;obtain⟨W,hW⟩:=abY ((w3.setCell ⟨X+1+1,0,none⟩ (.slice none 0 0)).setCell ⟨X+1+1+1,0,none⟩ (.int .i64 1));have B3:Hid (Below X w W):=jq (by rw[<-hW];exact ((ay.out.setCell (p:=⟨X+1+1,0,none⟩) (by dsimp only;omega) _).setCell (p:=⟨X+1+1+1,0,none⟩) (by dsimp only;omega) _));have e0:W.cell? ⟨X+1+1,0,none⟩=some (.slice none 0 0):=by rw[<-hW];simp[go_sem,y0]
   have e1:W.cell? ⟨X+1+1+1,0,none⟩=some (.int .i64 1):=by rw[<-hW];simp[go_sem,z0]
   rw[hW];exact j6 (v:=.tuple #[.slice none 0 0,.int .i64 1]) (by simp[results,results61,go_sem,e0,e1]) ⟨.inl ⟨λh=>absurd h.2 (by rw[ky.out];simp),rfl⟩,B3.out⟩
  | true=>
   have ky:=jq fB;have dO:Hid (Np.qv h z.data.toList):=jq ⟨HV.out,fB⟩;clear fB;have Zw:X+4<=w3.heap.size:=by omega
   have sO:∀ (w:World),(Instr.makeMap 213 none).run prog w = .ok (.map (some w.heap.size)) (w.alloc (.map #[] 0)):=λw=>by
    simp[Instr.makeMap,Result.andThen]
   obtain⟨Bh,uO⟩:=abY w3.heap.size;obtain⟨w4,bT⟩:=abY ((((w3.alloc (.cells #[.slice none 0 0] 52)).alloc (.cells #[.bool false] 4)).alloc (.map #[] 0)).alloc (.cells #[.map (some (Bh+1+1))] 213));have ah:Below w3.heap.size w3 w4:=by rw[<-bT];exact ((((vQ _ _).alloc (bQ _) _).alloc (by simp) _).alloc (by simp <;> omega) _).alloc (by simp <;> omega) _
   have gX:w4.heap.size=Bh+4:=by rw[<-bT,<-uO];simp
   have v0:=aaJ ah m0;have v1:=aaJ ah m1;have v2:=aaJ ah m2;have v3:=aaJ ah m3;have v4:=aaJ ah m4;have v5:=aaJ ah m5;have v6:=aaJ ah m6;have v7:=aaJ ah m7;have v8:=aaJ ah m8;have vz:=aaJ ah mz;have mi:=jq (aeX fp.out ah);have NI:=jq (aeX B6.out ah);have bl:=aaK ay ah;have M4:Hid (Boxed w4 Bh 52 (.slice none 0 0)):=jq (by
    rw[<-bT,<-uO];exact (((Boxed.new w3 52 (.slice none 0 0)).alloc _).alloc _).alloc _)
   have M6:Hid (Boxed w4 (Bh+1) 4 (.bool false)):=jq (by
    rw[<-bT,<-uO]
    have:=((Boxed.new (w3.alloc (.cells #[.slice none 0 0] 52)) 4 (.bool false)).alloc (.map #[] 0)).alloc (.cells #[.map (some (w3.heap.size+1+1))] 213)
    simpa using this)
   have M0:Hid (bR (Bh+1+1) [] w4):=jq (by
    rw[<-bT,<-uO]
    have:=(bR.made ((w3.alloc (.cells #[.slice none 0 0] 52)).alloc (.cells #[.bool false] 4))).stays (w':=((((w3.alloc (.cells #[.slice none 0 0] 52)).alloc (.cells #[.bool false] 4)).alloc (.map #[] 0)).alloc (.cells #[.map (some (w3.heap.size+1+1))] 213))) (Below.heap_alloc _ _ _ (by simp))
    simpa using this)
   have Nc:Hid (Boxed w4 (Bh+1+1+1) 213 (.map (some (Bh+1+1)))):=jq (by
    rw[<-bT,<-uO]
    have:=Boxed.new (((w3.alloc (.cells #[.slice none 0 0] 52)).alloc (.cells #[.bool false] 4)).alloc (.map #[] 0)) 213 (.map (some (w3.heap.size+1+1)))
    simpa using this)
   clear m0 m1 m2 m3 m4 m5 m6 m7 m8 mz;gi_wp2_with fail;clear sO ah;refine⟨trivial,rfl,?_⟩;refine (callsIn_wide.2 (Qm _ _ _ _ _ _ _ _ _ 138 #[.pointer (some ⟨X+1,0,none⟩)] w4)).mono ?_;rintro e w6 ⟨rfl,bB⟩;have kj:w6.heap.size=Bh+6:=by rw[bB];simp;omega
   have aI:Below w4.heap.size w4 w6:=by rw[bB];exact ((vQ _ _).alloc (bQ _) _).alloc (by simp) _
   have kX:w6.cell? ⟨Bh+4,1,none⟩=some (.slice A2 n2 c2):=by rw[bB,<-gX];simp[go_sem]
   have kO:w6.cell? ⟨Bh+4+1,0,none⟩=some (.func (.func 138) #[] #[.pointer (some ⟨X+1,0,none⟩)]):=by rw[bB,show Bh+4+1=w4.heap.size+1 by omega];simp[go_sem]
   rw[gX];obtain⟨L,o7,zB,DF⟩:=Qz (H4.out.keep mV (bl.out.trans (aI.acJ)));have uk:=jq (aaJ aI vz);have yr:=jq (Qn L (λx=>x.1.str.data.toList == z.data.toList) 138 #[.pointer (some ⟨X+1,0,none⟩)] (Bh+4) (Bh+4+1) n2 c2 (λk=>k<w6.heap.size/\¬ (k=Bh\/k=Bh+1\/k=Bh+1+1)) A2 w6 ⟨by omega,by omega⟩ ⟨by omega,by omega⟩ kX kO zB (by have:=qa.out.1;have:=iD.out;omega)
    (λi x hx=>by
      obtain⟨_,b,o,h1,h2,h3⟩:=DF i x hx;exact⟨b,o,h1,⟨by omega,by omega⟩,h3⟩) QO
    (λx hx W hW=>by
      have h1:=(hW.cell (p:=⟨X+1,0,none⟩) ⟨by dsimp only;omega,by dsimp only;omega⟩).trans uk.out
      have:=hW.1
      exact Wk x.1.host x.1.frm x.1.til x.1.str _ x.1.A x.1.n x.1.c rfl (X+1) z W (by omega) h1))
   have oL:=jq (aeX mi.out aI);have NK:=jq (aeX NI.out aI);have M5:=jq (aeX M4.out aI);have M7:=jq (aeX M6.out aI);have M2:Hid (bR (Bh+1+1) [] w6):=jq (M0.out.keep aI (by omega));have Nd:=jq (aeX Nc.out aI);have dB:=aaK bl aI;have ul:=jq o7;have lx:Hid (∀ x∈L,CVOf w6 X x.1 x.2):=jq (λx hx=>by obtain⟨i,hi⟩:=List.mem_iff_getElem?.1 hx;exact (DF i x hi).1);clear aI bB bT kX kO o7 DF v0 v1 v2 v3 v4 v5 v6 v7 v8 vz;have G4:=jq kj;gi_wp2_with fail;refine Mi (Dr:=λk=>k<w6.heap.size/\¬ (k=Bh\/k=Bh+1\/k=Bh+1+1)) (w0:=w6) (first:=#[]) (captured:=#[.pointer (some ⟨Bh+4,0,none⟩),.pointer (some ⟨Bh+4+1,0,none⟩)]) (gf:=141) rfl QL (mk:=λy=>#[y,.pointer (some ⟨Bh+4,0,none⟩),.pointer (some ⟨Bh+4+1,0,none⟩)]) (λ_=>rfl)
    yr.out (dR.refl λk e=>e.1) (λ_=>rfl) (yP w6 Bh (Bh+1) (Bh+1+1) z) (λ_ _ _ _=>False)
    (Lb _ _ _ _ _) (λc s S W W' h _=>h)
    (λk=>k=Bh\/k=Bh+1\/k=Bh+1+1) (λk h1 h2=>h2.2 h1) (by intro k h;omega)
    ⟨[],.slice none 0 0,λk=>k=Bh\/k=Bh+1\/k=Bh+1+1\/¬ (k=Bh\/k=Bh+1\/k=Bh+1+1),.inl rfl,.inr (.inl rfl),.inr (.inr rfl),(λk e=>by rcases e with e | ⟨x,hx,_⟩;cases e;cases hx),(λk e=>by omega),(λk e=>.inr (.inr (.inr e))),.inl rfl,.inr (.inl rfl),.inr (.inr (.inl rfl)),M5.out,M7.out,M2.out,PubR.nil _ _ _ _,rfl,RdStep.refl _ _⟩ ?round ?done ?stop
   case stop=>
    rintro D c pre S W hD dH aF fM h hK;exact h.elim
   case done=>
    rintro D S W hD dH aF ⟨us,ov,M,zH,uZ,zG,hown,uY,uU,mbo,mbt,mbm,di,nI,o8,su,sN,an⟩ hK;obtain⟨te,Ex⟩:=abY ((L.filter λx=>x.1.str.data.toList == z.data.toList).isEmpty);have F7:Hid (Np.rZ h z.data.toList↔te=false):=jq (by
     rw[<-Ex,List.isEmpty_eq_false_iff_exists_mem];constructor
     ·rintro⟨c,hc,hz⟩;rw[<-ul.out] at hc;obtain⟨x,hx,rfl⟩:=List.mem_map.1 hc;exact⟨x,List.mem_filter.2 ⟨hx,by rw[(lx.out x hx).apex,hz];simp⟩⟩
     ·rintro⟨x,hx⟩;obtain⟨h1,h2⟩:=List.mem_filter.1 hx;refine⟨x.2,by rw[<-ul.out];exact List.mem_map.2 ⟨x,h1,rfl⟩,?_⟩;rw[<-(lx.out x h1).apex];simpa using h2)
    rw[Ex] at nI;have iX:Hid (us.map (λx=>(x.1,x.2.1))=Np.cY (Np.ci h.copies z.data.toList)):=jq (by rw[sN,H7 lx.out,ul.out]);have u7:=an.size;have FX:Hid (D<W.heap.size):=jq (eQ.1 hK).1;have so:Below X w6 W:=an.below (by omega) (λk e=>by omega);have FT:Hid (Below X w W):=aaK dB so;have iY:Hid (Boxed W (X+1+1) 52 (.slice none 0 0)):=jq ((an.keep (X+1+1) (by omega) (by omega)).trans oL.out);have B8:Hid (Boxed W (X+1+1+1) 37 (.int .i64 0)):=jq ((an.keep (X+1+1+1) (by omega) (by omega)).trans NK.out);have BV:=jq di;have nv:=jq dH;have gz:=jq uY;have Gh:=jq hK;have Ct:=jq (PubK.start su uU hown);have t0:=nI.cell;clear Ex sN an so di nI o8 su uU hown uY dH hK mbo mbt mbm zH uZ zG aF;have zJ:X+1+1≠D:=by omega
    have zw:X+1+1+1≠D:=by omega
    cases te with
    | true=>
     simp only[Bool.not_true] at t0;have o0:=iY.out.cell;have o1:=iY.out.frozen;have q0:=B8.out.cell;have q1:=B8.out.frozen;gi_wp2_with fail;obtain⟨W',hW'⟩:=abY ((W.setCell ⟨X+1+1,0,none⟩ (.slice none 0 0)).setCell ⟨X+1+1+1,0,none⟩ (.int .i64 4));have AR:W'.heap.size=W.heap.size:=by rw[<-hW'];simp
     have Aj:∀ k,k≠X+1+1->k≠X+1+1+1->W'.heap[k]?=W.heap[k]?:=λk h1 h2=>by rw[<-hW'];exact (wQ _ _ _ k h2).trans (wQ _ _ _ k h1)
     have Dx:Below X w W':=by rw[<-hW'];exact ((FT.out.setCell (p:=⟨X+1+1,0,none⟩) (by dsimp only;omega) _).setCell (p:=⟨X+1+1+1,0,none⟩) (by dsimp only;omega) _)
     have pC:W'.os=W.os/\W'.tape=W.tape/\W'.output=W.output:=by rw[<-hW'];simp[World.setCell]
     have DD:W'.heap[D]?=some (.deferred (some [])):=(Aj D (Ne.symm zJ) (Ne.symm zw)).trans Gh.out;have e0:W'.cell? ⟨X+1+1,0,none⟩=some (.slice none 0 0):=by rw[<-hW'];simp[go_sem,o0]
     have e1:W'.cell? ⟨X+1+1+1,0,none⟩=some (.int .i64 4):=by rw[<-hW'];simp[go_sem,q0]
     have f0:=(iQ (w:=W') (w':=W'.putObj D (.deferred none)) (a:=⟨X+1+1,0,none⟩) (zQ zJ)).trans e0;have f1:=(iQ (w:=W') (w':=W'.putObj D (.deferred none)) (a:=⟨X+1+1+1,0,none⟩) (zQ zw)).trans e1;rw[hW'];refine kH DD (v:=.tuple #[.slice none 0 0,.int .i64 4]) (by simp[results,results61,go_sem,f0,f1]) ⟨.inr ⟨dO.out,.inl ⟨(λh=>by have:=F7.out.1 h;cases this),rfl⟩⟩,kE Dx (by omega) _⟩
    | false=>
     simp only[Bool.not_false] at t0;obtain⟨n,hn⟩:=abY us.length;obtain⟨oA,oc,rfl⟩:=Ct.out.rows.row.formN hn;have Gx:=jq hn;have b0:=BV.out.cell;obtain⟨PS,zD⟩:=abY (Np.ci h.copies z.data.toList);have qj:=jq zD;rw[zD] at iX;have Gq:Hid ((Np.cY PS).length=n):=jq (by rw[<-iX.out,List.length_map];exact hn);have JV:n<=5000:=by rw[<-hn];have h1:=KI iX.out;have h2:=ly.out;rw[zD] at h2;omega
     clear hn zD;gi_wp2_with fail;gi_loopw [83] (λI wr=>∃ (i:Nat) (us':List PT) (ov':Value) (M':Nat->Prop),i<=n/\I = .int .i64 i/\W.heap.size<=wr.heap.size/\Hid (us'.length=n)/\Hid (Boxed wr Bh 52 ov')/\Hid (PubK S W w6.heap.size z M' us' ov' wr)/\Hid (us'.map (λx=>(x.1,x.2.1))=mM (Np.cY PS) i)) (λI _=>n - (intOf I).toNat)
     case atStart=>exact⟨0,us,_,_,jQ _,rfl,bQ _,Gx,BV,Ct,jq (by rw[VB];exact iX.out)⟩
     case round=>
      clear BV Ct iX Gx b0 t0;obtain⟨i,us',ov',M',hi,rfl,Ua,rS,rJ,eZ,uq⟩:=hrel;by_cases aa:i<n
      ·obtain⟨g,cap,rfl,fw,Ea,qP⟩:=eZ.out.rows.row.formSome rS.out (by omega);have Ga:Hid (i<(Np.cY PS).length):=jq (by rw[Gq.out];exact aa);obtain⟨⟨xs,xt,xv⟩,hx,hl⟩:=KS uq.out Ga.out;dsimp only at hl;have od:=Np.KJ hl;have pB:av w6.heap.size wr xv xt:=eZ.out.rows.fresh _ (gQ hx);have F1:Hid (SlR cm 2 wr wr.heap.size xv xt):=jq (pB.slr (by have h1:=Np.Fe PS xs;rw[<-od] at h1;have h2:=ly.out;rw[qj.out] at h2;omega));have O6:Hid (∀ s∈xt,Np.uD s):=jq (λs hs=>Np.Wv (h:=h) (zone:=z.data.toList) (s:=xs) (by rw[qj.out,<-od];exact hs) HV.out);have O9:Hid (xt.length<=20000):=jq (by have h1:=Np.Fe PS xs;rw[<-od] at h1;have h2:=ly.out;rw[qj.out] at h2;omega);have HX:=jq hx;obtain⟨fA,fc,rfl⟩:=av.form pB;have f6:wr.cell? ⟨g,i * 8+6,none⟩=some (.slice fA xt.length fc):=D8 eZ.out.rows.row hx;obtain⟨fn,fY⟩:=abY xt.length;rw[fY] at f6 HX F1;have b6:=rJ.out.cell;have lP:(0:Int)<=(i:Int):=by omega
       have ji:(i:Int)<(n:Int):=by omega
       clear hx hl od pB fY qP;gi_wp2_with fail;refine BF λa0 cE=>?_;have nc:=jq cE;have eI:=jq (show a0.eval (.tmp 6) = .pointer (some ⟨Bh,0,none⟩) by rw[cE];rfl);have FA:=jq (show a0.eval (.tmp 15) = .int .i64 (i:Nat) by rw[cE];rfl);have HM:=jq (show a0.tmps.size=101 by rw[cE];rfl);clear cE;refine wpIn_wide.2 (wp_region_any (by kernel_rfl) ?_);refine iy 7 (D:=[0,1,2,3,4,5,6,11,12]) (val:=lh g n cap i fA fn fc undef) Bd Be (vv HM.out) (by kernel_rfl) ?_ ?_
       ·intro i aU cn o ho a' hb aW;have k6':=adJ hb eI.out;have k15':=adJ hb FA.out;simp[Act.eval] at k6' k15'
        repeat' (rcases aU with _ | ⟨_,aU⟩)
        all_goals first
         | (exfalso;simp at cn;done)
         | (cases ho
            try simp[Act.eval,Region.binds,lh,ld] at aW
            refine gZ (by simp[Region.wanted]) ?_;simp[Oper.quietAt,Oper.quietUpon,execOp,go_sem,lh,k6',k15',b6,f6,lP,ji,xr,Bf,aW])
       ·intro f listed a' hH hr hv;have av6:=hv 6;simp[Act.eval,lh,ld] at av6;simp only[wpOp];simp[Region.wanted];refine .inl ?_;simp[Oper.wp,go_sem,av6];refine (KP _ xt O9.out O6.out wr.drew (F1.out.keep cI (vQ wr.heap.size wr).drew)).mono ?_;rintro e wC ⟨v2,rfl,dK,vg⟩;have cV:Below wr.heap.size wr wC:=(vQ wr.heap.size wr).drew.trans vg;have Km:=cV.size;replace b6:=aaJ cV b6;replace f6:=aaJ cV f6;have qN:=(World.frozen?_of_block (a:=⟨g,i * 8+6,none⟩) (cV.block g (by omega))).trans (eZ.out.rows.row.frozenAt rS.out _);obtain⟨gA,gc,rfl⟩:=av.form dK;obtain⟨gn,gD⟩:=abY ((Np.fO xt).length);rw[gD] at dK |-;have bV:=jq dK;have iA:=jq cV;clear dK cV vg gD;dsimp only;refine iy 13 (D:=[0,1,2,3,4,5,6,8,9,10,11,12,7]) (val:=lh g n cap i fA fn fc (.tuple #[.slice gA gn gc,.int .i64 0])) Bd Be (hH.next Bd Be hr) (by kernel_rfl) ?_ ?_
        ·intro i aU cn o ho a' hb aW;have k6':=adJ hb eI.out;have k15':=adJ hb FA.out;simp[Act.eval] at k6' k15'
         repeat' (rcases aU with _ | ⟨_,aU⟩)
         all_goals first
          | (exfalso;simp at cn;done)
          | (cases ho
             try simp[Act.eval,Region.binds,lh,ld] at aW
             refine gZ (by simp[Region.wanted]) ?_;simp[Oper.quietAt,Oper.quietUpon,execOp,go_sem,lh,k6',k15',b6,f6,lP,ji,xr,Bf,aW])
        ·intro f listed a' hH hr hv;have av9:=hv 9;have av12:=hv 12;simp[Act.eval,lh,ld,xr] at av9 av12;simp only[wpOp];simp[Region.wanted];refine .inl ?_;simp[Oper.wp,execOp,go_sem,av9,av12,f6,qN];clear b6 f6 qN;obtain⟨W',hW'⟩:=abY (wC.setCell ⟨g,i * 8+6,none⟩ (.slice gA gn gc));have Gf:=jq (eZ.out.normed rS.out HX.out (ps':=Np.fO xt) iA.out bV.out (by have:=eZ.out.rd.size;omega));rw[hW'] at Gf |-;have dX:Below w6.heap.size wr W':=by rw[<-hW'];exact (iA.out.mono (by have:=eZ.out.rd.size;omega)).setCell (by dsimp only;omega) _
         have MY:=jq (aeX rJ.out dX);clear dX;have Kn:W'.heap.size=wC.heap.size:=by rw[<-hW'];simp[World.setCell]
         refine Yv (R:=[10]) (D:=[0,1,2,3,4,5,6,8,9,10,11,12,7]) (dst:=ld) (val:=lh g n cap i fA fn fc (.tuple #[.slice gA gn gc,.int .i64 0])) (a0:=a0) (m:=101) HM.out (Mg (by kernel_rfl)) (by simp) (λi hi=>?_) (λi hi=>by simp at hi;subst hi;exact⟨_,rfl,rfl⟩) (λi hi=>(Bd i hi).1) Be (λi hi o ho e he hb=>?_) (λi hi o ho a' aW=>?_) ?_ _ _ _ (hH.rest hr (by simp) (by kernel_rfl))
         ·simp at hi |-;omega
         ·simp at hi;subst hi
          cases ho
          simp at he;rcases he with rfl | rfl
          ·simp
          ·simp[Region.binds] at hb
         ·simp at hi;subst hi
          cases ho
          simp[Act.eval,Region.binds,lh,ld] at aW;refine gZ (by simp[Region.wanted]) ?_;simp[Oper.quietAt,Oper.quietUpon,execOp,go_sem,lh,xr,Bf,aW]
         ·rw[nc.out];simp[li,Act.put,lh,ld];clear hv hH;gi_wp2_with fail;go_roundw
          case measure=>simp[intOf] <;> omega
          case rel=>exact⟨i+1,_,_,_,by omega,by go_num,by omega,jq (by rw[List.length_set];exact rS.out),MY,Gf,jq (Vz uq.out Ga.out HX.out _)⟩
      ·obtain rfl:i=n:=by omega
       obtain⟨oA',oc',rfl⟩:=eZ.out.rows.row.formN rS.out;have b0:=rJ.out.cell;have I0:¬ S (X+1+1):=λe=>by have:=gz.out _ e;omega
       have IR:¬ S (X+1+1+1):=λe=>by have:=gz.out _ e;omega
       have GC:Hid (Boxed wr (X+1+1) 52 (.slice none 0 0)):=jq ((eZ.out.rd.keep (X+1+1) (by omega) I0).trans iY.out);have FZ:Hid (Boxed wr (X+1+1+1) 37 (.int .i64 0)):=jq ((eZ.out.rd.keep (X+1+1+1) (by omega) IR).trans B8.out);have oH:Hid (wr.heap[D]?=some (.deferred (some []))):=jq ((eZ.out.rd.keep D FX.out nv.out).trans Gh.out);have bH:Hid (Below X w wr):=jq (FT.out.trans (eZ.out.rd.below (by omega) (λk e=>by have:=gz.out k e;omega)));have o0:=GC.out.cell;have o1:=GC.out.frozen;have q0:=FZ.out.cell;have q1:=FZ.out.frozen;gi_wp2_with fail;obtain⟨W',hW'⟩:=abY ((wr.setCell ⟨X+1+1,0,none⟩ (.slice oA' i oc')).setCell ⟨X+1+1+1,0,none⟩ (.int .i64 0));have AR:W'.heap.size=wr.heap.size:=by rw[<-hW'];simp
       have Aj:∀ k,k≠X+1+1->k≠X+1+1+1->W'.heap[k]?=wr.heap[k]?:=λk h1 h2=>by rw[<-hW'];exact (wQ _ _ _ k h2).trans (wQ _ _ _ k h1)
       have Dx:Below X w W':=by rw[<-hW'];exact ((bH.out.setCell (p:=⟨X+1+1,0,none⟩) (by dsimp only;omega) _).setCell (p:=⟨X+1+1+1,0,none⟩) (by dsimp only;omega) _)
       have pC:W'.os=wr.os/\W'.tape=wr.tape/\W'.output=wr.output:=by rw[<-hW'];simp[World.setCell]
       have DD:W'.heap[D]?=some (.deferred (some [])):=(Aj D (Ne.symm zJ) (Ne.symm zw)).trans oH.out;have e0:W'.cell? ⟨X+1+1,0,none⟩=some (.slice oA' i oc'):=by rw[<-hW'];simp[go_sem,o0]
       have e1:W'.cell? ⟨X+1+1+1,0,none⟩=some (.int .i64 0):=by rw[<-hW'];simp[go_sem,q0]
       have f0:=(iQ (w:=W') (w':=W'.putObj D (.deferred none)) (a:=⟨X+1+1,0,none⟩) (zQ zJ)).trans e0;have f1:=(iQ (w:=W') (w':=W'.putObj D (.deferred none)) (a:=⟨X+1+1+1,0,none⟩) (zQ zw)).trans e1;rw[hW'];have SU:∀ k,k≠X+1+1->k≠X+1+1+1->k≠D->(W'.putObj D (.deferred none)).heap[k]?=wr.heap[k]?:=λk h1 h2 h3=>(zQ h3).trans (Aj k h1 h2);have TX:(W'.putObj D (.deferred none)).heap.size=wr.heap.size:=by simpa using AR
       have GG:=jq (eZ.out.calm (T:=λk=>k=X+1+1\/k=X+1+1+1\/k=D) (λk e=>by
        rcases e with rfl | rfl | rfl
        ·exact⟨by omega,I0⟩
        ·exact⟨by omega,IR⟩
        ·exact⟨FX.out,nv.out⟩) (w':=W'.putObj D (.deferred none)) pC TX (λk hk=>SU k (λe=>hk (.inl e)) (λe=>hk (.inr (.inl e))) (λe=>hk (.inr (.inr e)))))
       refine kH DD (v:=.tuple #[.slice oA' i oc',.int .i64 0]) (by simp[results,results61,go_sem,f0,f1]) ⟨.inr ⟨dO.out,.inr ⟨(by have h1:=F7.out;simpa using h1),_,rfl,?_⟩⟩,kE Dx (by omega) _⟩;intro Mq RK;have pK:=rS.out;have JT:us'.map (λx=>(x.1,x.2.1))=(Np.cY PS).map λx=>(x.1,Np.fO x.2):=by rw[uq.out,Vy Gq.out]
       have To:(us'.map λx=>(⟨z.data.toList,x.1,x.2.1,[]⟩:Np.Held))=Np.pub h.copies z.data.toList:=by
        have h1:=Qd (List.map λx:Np.Signed×List Np.Span=>(⟨z.data.toList,x.1,x.2,[]⟩:Np.Held)) JT;rw[List.map_map,List.map_map] at h1;refine Eq.trans h1 ?_;rw[<-qj.out];exact (Np.Vb Np.fO _ _).symm
       rw[<-To];exact GG.out.slr hz (by omega) (λx hx=>by
        have h1:(x.1,x.2.1)∈us'.map (λx=>(x.1,x.2.1)):=List.mem_map.2 ⟨x,hx,rfl⟩;rw[JT] at h1;obtain⟨y,hy,he⟩:=List.mem_map.1 h1;simp only[Prod.mk.injEq] at he;rw[<-he.2];obtain⟨j,hj⟩:=List.mem_iff_getElem?.1 hy;have h2:=rq y.2;have h3:=Np.Fe PS y.1;rw[<-Np.KJ hj] at h3;have h4:=ly.out;rw[qj.out] at h4;omega) (λk hk=>by
        have h1:=RK k hk;refine⟨eZ.out.ex k (by omega) (λe=>by have:=gz.out k e;omega),λe=>by have:=(GG.out.lt e).1;omega⟩)
   case round=>
    rintro l0 pre ⟨⟨xh,xf,xt,xs,xA,xn,xc⟩,cc⟩ S W aJ hI eh;have CQ:Hid ((⟨⟨xh,xf,xt,xs,xA,xn,xc⟩,cc⟩:CV×Np.Copy)∈L):=jq ((List.mem_filter.1 (aJ.subset (by simp:(⟨⟨xh,xf,xt,xs,xA,xn,xc⟩,cc⟩:CV×Np.Copy)∈_))).1);have lG:=Wp hI ((vQ _ W).alloc (bQ _) (.cells #[.int .i64 xh,.int .i64 xf,.int .i64 xt,.string xs,.slice xA xn xc] 46));have u7:w6.heap.size<=W.heap.size:=by obtain⟨_,_,_,_,_,_,_,_,_,_,_,_,_,_,_,_,_,hB⟩:=hI;exact hB.size
    have kx:=jq aJ;clear hI aJ;gi_wp2;refine⟨λk=>S k\/k=W.heap.size,(RdStep.refl S W).alloc _,λk e=>e.imp id (λh=>by omega),λk e=>by rcases e with e | e;have:=eh k e;simp;omega;simp;omega,?_⟩;intro l W₂ ak;have RG:=Lb w6 Bh (Bh+1) (Bh+1+1) z pre S _ W₂ lG (ak.weaken (bQ _) (λk e=>.inl e));have jm:=ak.size;simp only[World.size_alloc] at jm;have jg:W₂.heap[W.heap.size]?=some (.cells #[.int .i64 xh,.int .i64 xf,.int .i64 xt,.string xs,.slice xA xn xc] 46):=(ak.keep W.heap.size (by simp) (.inr (.inr rfl))).trans (heap_alloc_new _ _);obtain⟨us,ov,M,zH,uZ,zG,hown,uY,uU,mbo,mbt,mbm,di,nI,o8,su,sN,an⟩:=RG;have O5:Hid (∀ k,S k->k<W.heap.size):=jq eh;have gz:=jq uY;have uy:=jq (And.intro zH (And.intro uZ zG));have yh:Hid (CVOf w6 X ⟨xh,xf,xt,xs,xA,xn,xc⟩ cc):=jq (lx.out _ CQ.out);have so:Below X w6 W₂:=an.below (by omega) (λk e=>by omega);have MP:=jq (dB.out.trans so);have ed:=jq an;obtain⟨sets,s9⟩:=abY cc.zone.sets;have CC:=jq s9;have O4:Hid (SlR cU 5 W₂ X (.slice xA xn xc) sets):=jq (by have:=(yh.out.keep so).sets;rw[s9] at this;exact this);have Kj:sets.length=xn:=by rw[<-s9];exact yh.out.len
    have G3:=jq Kj;have D4:cc∈h.copies:=by rw[<-ul.out];exact List.mem_map.2 ⟨_,CQ.out,rfl⟩
    have oB:=jq D4;have afZ:xn<=20000:=by rw[<-Kj,<-s9];exact qa.out.2 cc D4
    have IY:Np.hU cc=⟨xf,xt⟩:=by
     have h1:=yh.out.frm;have h2:=yh.out.til;dsimp only at h1 h2;unfold Np.hU;rw[h1,h2]
    obtain⟨PP,DI⟩:=abY ((pre.map (·.2)).flatMap Np.kZ);rw[DI] at sN;have tU:Hid (((pre ++ [((⟨xh,xf,xt,xs,xA,xn,xc⟩,cc):CV×Np.Copy)]).map (·.2)).flatMap Np.kZ=PP++sets.map λs=>((⟨xf,xt⟩:Np.Span),s)):=jq (by
     rw[List.map_append,List.flatMap_append,DI];simp[Np.kZ,IY,s9])
    have GT:Hid (∃ c,Np.ci h.copies z.data.toList=(PP++sets.map λs=>((⟨xf,xt⟩:Np.Span),s))++c):=jq (by
     obtain⟨c,hc⟩:=Wd kx.out;rw[tU.out,H7 lx.out,ul.out] at hc;exact⟨c,hc⟩)
    have GF:Hid (∀ j,(psP PP ⟨xf,xt⟩ sets j).length<=5000):=jq (λj=>by
     obtain⟨c,hc⟩:=GT.out;have h1:=Qd List.length hc;have h2:=Wf PP ⟨xf,xt⟩ sets j;have h3:=ly.out;rw[List.length_append] at h1;omega)
    have OS:Hid (∀ j,∀ p∈psP PP ⟨xf,xt⟩ sets j,Np.Plain47 p.2):=jq (λj p hp=>by
     obtain⟨c,hc⟩:=GT.out;have h1:p∈Np.ci h.copies z.data.toList:=by rw[hc];exact List.mem_append.2 (.inl (Wg hp))
     obtain⟨d,hd,_,hs,_⟩:=Np.ro.1 h1;exact Np.Mw (HV.out.each d hd).zone hs (CE.out d hd _ hs))
    obtain⟨w7,EC⟩:=abY (W₂.setCell ⟨Bh+1,0,none⟩ (.bool true));have t7:Turned (Bh+1) W₂ w7:=by rw[<-EC];exact⟨rfl,rfl,rfl,by simp[World.setCell],λi hi=>wQ _ _ _ _ hi⟩
    have tk:w7.heap.size=W₂.heap.size:=t7.size;have R8:=nI.cell;have R9:=nI.frozen;have FO:Hid (Boxed w7 (Bh+1) 4 (.bool true)):=jq (by rw[<-EC];exact nI.set _);have FL:Hid (Boxed w7 Bh 52 ov):=jq ((t7.block Bh (by omega)).trans di);have FJ:Hid (bR (Bh+1+1) (Np.kl (us.map (·.1))) w7):=jq (o8.stays (t7.block _ (by omega)));have kr:=jq jg;have Je:=(t7.block W.heap.size (by omega)).trans jg;have Gc:Hid (PubK S W₂ w6.heap.size z (λk=>M k/\k<W₂.heap.size) us ov w7):=jq ((PubK.start su uU hown).touch ⟨mbt,nI.lt⟩ (.inl uZ) (λe=>by have:=(su.lt e).1;omega) t7);have Se:w7.cell? ⟨W.heap.size,4,none⟩=some (.slice xA xn xc):=by simp[World.cell?,Je]
    have G6:Hid (W₂.heap[X+1]?=w6.heap[X+1]?/\W₂.heap[Bh+1+1+1]?=w6.heap[Bh+1+1+1]?):=jq ⟨an.keep _ (by omega) (by omega),an.keep _ (by omega) (by omega)⟩;have Gp:Hid ((M Bh/\Bh<W₂.heap.size)/\(M (Bh+1+1)/\Bh+1+1<W₂.heap.size)/\(M (Bh+1)/\Bh+1<W₂.heap.size)):=jq ⟨⟨mbo,by omega⟩,⟨mbm,by omega⟩,⟨mbt,by omega⟩⟩;have Gr:=jq sN;have Zx:X+4<=Bh:=by omega
    have Dw:Bh+6<=W.heap.size:=by omega
    have DO:W.heap.size<W₂.heap.size:=by omega
    have Jd:¬ S W.heap.size:=λe=>by have:=eh _ e;omega
    have yi:=jq Jd;clear DI s9 di nI o8 su sN an t7 jg Je lG ak eh uY uU mbo mbt mbm hown zH uZ zG so IY D4 Jd;gi_wp2_with fail;clear EC Se R8 R9;obtain⟨ih,SL,SH,SI,SJ⟩:=info_parts Tryz.infoHeldA;gi_loopw [33] (λi wr=>∃ (j:Nat) (us:List PT) (ov:Value) (M:Nat->Prop),j<=xn/\i = .int .i64 j/\W₂.heap.size<=wr.heap.size/\Hid (Boxed wr Bh 52 ov)/\Hid (Boxed wr (Bh+1) 4 (.bool true))/\Hid (bR (Bh+1+1) (Np.kl (us.map (·.1))) wr)/\Hid (PubK S W₂ w6.heap.size z M us ov wr)/\Hid (M Bh/\M (Bh+1+1)/\M (Bh+1))/\Hid (us.map (λx=>(x.1,x.2.1))=Np.cY (psP PP ⟨xf,xt⟩ sets j))) (λi _=>xn - (intOf i).toNat)
    case atStart=>exact⟨0,us,ov,_,jQ _,rfl,by omega,FL,FO,FJ,Gc,Gp,jq (by rw[Wi];exact Gr.out)⟩
    case round=>
     clear FL FO FJ Gc Gp Gr tk;obtain⟨j,us,ov,M,hj,rfl,Ua,rJ,FQ,FK,eZ,cJ,iX⟩:=hrel;have bH:Hid (Below X w wr):=jq (MP.out.trans (eZ.out.rd.below (by omega) (λk e=>by have:=gz.out k e;omega)));have yt:Hid (∀ k,k<W₂.heap.size->¬ S k->wr.heap[k]?=W₂.heap[k]?):=jq eZ.out.rd.keep;by_cases aa:j<xn
     ·obtain⟨x,ac⟩:∃ x,sets[j]?=some x:=⟨_,aQ (by rw[G3.out];exact aa)⟩;obtain⟨b',o,c',ss,dv,sv,hA,hb',_,hs,J6,be,aY,e0,e1,e2,e3,e4⟩:=iV (O4.out.keep da (eZ.out.rd.below (n:=X) (by omega) (λk e=>by have:=gz.out k e;omega))) ac;simp only[Value.slice.injEq] at hA;obtain⟨rfl,-,rfl⟩:=hA;have jL:x∈cc.zone.sets:=by rw[CC.out];exact gQ ac
      have Ck:Hid (KeyS x):=jq (YQ (HV.out.each cc oB.out).zone jL (CE.out cc oB.out x jL));have GI:Hid (Np.Plain47 x):=jq (Np.Mw (HV.out.each cc oB.out).zone jL (CE.out cc oB.out x jL));have gu:Hid (psP PP ⟨xf,xt⟩ sets (j+1)=psP PP ⟨xf,xt⟩ sets j ++ [(⟨xf,xt⟩,x)]):=jq (Wh ac);have GS:=jq (And.intro hs J6);have G2:Hid ((⟨⟨ss.data.toList,x.set.type,x.set.life,x.set.data⟩,x.sigs⟩:Np.Signed)=x):=jq (by rw[hs]);have ym:Hid (x.set.data.length<=1000/\x.sigs.length<=1000):=jq (by have h1:=Ck.out.few;have h2:=Ck.out.fewS;omega);have mg:Hid (∀ W',Below X wr W'->SlR bI 3 W' W'.heap.size dv x.set.data):=jq (λW' hb=>(be.keep bq hb).more bD (by have:=hb.size;omega));have Cc:Hid (∀ W',Below X wr W'->SlR cr 6 W' W'.heap.size sv x.sigs):=jq (λW' hb=>(aY.keep cC hb).more cZ (by have:=hb.size;omega));obtain⟨dA,dc,rfl,_,_⟩:=ar be;obtain⟨gA,gc,rfl,_,_⟩:=ar aY;obtain⟨dn,sD⟩:=abY x.set.data.length;obtain⟨gn,gD⟩:=abY x.sigs.length;rw[sD] at e3 mg;rw[gD] at e4 Cc;have NG:=jq sD;have N0:=jq gD;clear ac hs J6 be aY sD gD jL;have cN:(0:Int)<=(j:Int):=by omega
      have cO:(j:Int)<(xn:Int):=by omega
      obtain⟨w8,gI⟩:=abY (wr.alloc (.cells #[.string ss,.int .i64 x.set.type,.int .i64 x.set.life,.slice dA dn dc,.slice gA gn gc] 42));have rg:w8.heap.size=wr.heap.size+1:=by rw[<-gI];simp
      have dW:Below wr.heap.size wr w8:=by rw[<-gI];exact (vQ _ _).alloc (bQ _) _
      have p0:w8.cell? ⟨wr.heap.size,0,none⟩=some (.string ss):=by rw[<-gI];simp[go_sem]
      have p1:w8.cell? ⟨wr.heap.size,1,none⟩=some (.int .i64 x.set.type):=by rw[<-gI];simp[go_sem]
      have p2:w8.cell? ⟨wr.heap.size,2,none⟩=some (.int .i64 x.set.life):=by rw[<-gI];simp[go_sem]
      have p3:w8.cell? ⟨wr.heap.size,3,none⟩=some (.slice dA dn dc):=by rw[<-gI];simp[go_sem]
      have p4:w8.cell? ⟨wr.heap.size,4,none⟩=some (.slice gA gn gc):=by rw[<-gI];simp[go_sem]
      have eX:=jq dW;clear dW;gi_wp2_with fail;refine⟨trivial,rfl,?_⟩;refine (CallsIn.inRound l (callsIn_wide.2 (XF ss x.set.type x.set.life _ _ x.set.data x.sigs w8 (no.out.keepAt (bH.out.trans (eX.out.acJ)) qc.out) (by rw[G2.out];exact Ck.out) (mg.out w8 (eX.out.acJ)) (Cc.out w8 (eX.out.acJ))))).mono ?_;rw[G2.out];rintro e w9 ⟨rfl,bi⟩;clear gI e0 e1 e2 e3 e4;have wV:=bi.size;have eb:Hid (Below wr.heap.size wr w9):=aaK eX bi;replace p0:=aaJ bi p0;replace p1:=aaJ bi p1;replace p2:=aaJ bi p2;replace p3:=aaJ bi p3;replace p4:=aaJ bi p4;have xY:=jq (aeX rJ.out eb.out);have FP:=jq (aeX FQ.out eb.out);have BU:Hid (bR (Bh+1+1) (Np.kl (us.map (·.1))) w9):=jq (FK.out.keep eb.out (by omega));have nj:=jq (eZ.out.keep eb.out);have zS:=(eb.out.block _ (by omega)).trans ((yt.out _ (by omega) yi.out).trans kr.out);have Ji:w9.heap[X+1]?=w6.heap[X+1]?:=(eb.out.block _ (by omega)).trans ((yt.out _ (by omega) (λe=>by have:=gz.out _ e;omega)).trans G6.out.1);have Jg:w9.heap[Bh+1+1+1]?=w6.heap[Bh+1+1+1]?:=(eb.out.block _ (by omega)).trans ((yt.out _ (by omega) (λe=>by have:=gz.out _ e;omega)).trans G6.out.2);have bx:w9.cell? ⟨Bh+1+1+1,0,none⟩=some (.map (some (Bh+1+1))):=(iQ Jg).trans Nd.out.cell;have kz:w9.cell? ⟨X+1,0,none⟩=some (.string z):=(iQ Ji).trans uk.out;have gd:=WW (P:=prog) w9 213 9 3 underlying213 underlying9 (Bh+1+1) _ BU.out (Np.gL x) (.int .i64 0) (by kernel_rfl);have yH:Hid (∀ y∈us.map (·.1),Np.Plain47 y):=jq (λy hy=>by
       rw[Bb iX.out] at hy;obtain⟨p,hp,rfl⟩:=List.mem_map.1 (Np.xi.1 hy);exact OS.out j p hp)
      have qo:Hid ((us.map (·.1)).Nodup):=jq (by rw[Bb iX.out];exact Np.xk _);have GU:Hid (us.length<=5000):=jq (by have h1:=KI iX.out;have h2:=GF.out j;omega);clear bi Ji Jg;obtain⟨key,sK⟩:=abY (Np.gL x);rw[sK] at gd |-;by_cases hin:x∈us.map (·.1)
      ·obtain⟨q,hq⟩:=List.mem_iff_getElem?.1 hin;have fK:(Np.kl (us.map (·.1))).lookup key=some (.int .i64 ((q:Nat):Int)):=by rw[<-sK];exact Np.UH GI.out yH.out qo.out hq
       rw[fK] at gd;simp only[Option.getD_some,Option.isSome_some] at gd;rw[Bb iX.out] at hq;obtain⟨fv,hy⟩:=Vf iX.out hq;obtain⟨tl,tf⟩:=abY (Np.eB (psP PP ⟨xf,xt⟩ sets j) x);have iC:Hid (∀ v',(us.set q (x,tl ++ [⟨xf,xt⟩],v')).map (λx=>(x.1,x.2.1))=Np.cY (psP PP ⟨xf,xt⟩ sets (j+1))):=jq (λv'=>by rw[gu.out,<-tf];exact Vh iX.out hq _ v');have CI:Hid (tl.length<=5000):=jq (by rw[<-tf];have h1:=BB (psP PP ⟨xf,xt⟩ sets j) x;have h2:=GF.out j;omega);rw[tf] at hy;clear hin fK hq tf sK;obtain⟨n,hn⟩:=abY us.length;have acX:q<n:=by rw[<-hn];exact (cQ.1 hy).1
       obtain⟨g,cap,rfl,fw,Ea,qP⟩:=nj.out.rows.row.formSome hn (by omega);have fT:=jq hn;have JV:n<=5000:=by rw[<-hn];exact GU.out
       have pB:av w6.heap.size w9 fv tl:=nj.out.rows.fresh _ (gQ hy);obtain⟨fA,fc,rfl⟩:=av.form pB;obtain⟨fn,fY⟩:=abY tl.length;rw[fY] at hy pB;have ue:=jq fY;have HY:=jq hy;have nn:Hid (∀ k,(Value.slice fA fn fc).ownBlock=some k->w6.heap.size<=k/\k≠g/\k≠W.heap.size):=jq (λk e=>by
        have h1:=World.ownsRow.lt pB k e;have h2:=(nj.out.rows.off _ (gQ hy) k e).1;have h3:=nj.out.own k (.inr ⟨_,gQ hy,e⟩);exact⟨h1.1,λe=>h2 (by rw[e];rfl),λe2=>by
         subst e2;rcases h3 with h3 | h3
         ·exact yi.out h3
         ·omega⟩)
       have b6:=xY.out.cell;have f6:w9.cell? ⟨g,q * 8+6,none⟩=some (.slice fA fn fc):=D8 nj.out.rows.row hy;have c1:w9.cell? ⟨W.heap.size,1,none⟩=some (.int .i64 xf):=by simp[World.cell?,zS]
       have c2:w9.cell? ⟨W.heap.size,2,none⟩=some (.int .i64 xt):=by simp[World.cell?,zS]
       have lP:(0:Int)<=(q:Int):=by omega
       have ji:(q:Int)<(n:Int):=by omega
       have pk:decide ((20000:Int)<(n:Int))=false:=acK;have SD:decide (20000<n)=false:=acK;have uh:=nj;have xX:=xY;have BW:=FP;have xW:=BU;have qh:=cJ;have SC:W.heap.size<w9.heap.size:=by omega
       clear hn hy pB fY zS qP;gi_wp2_with fail;refine BF λa0 cE=>?_;have nc:=jq cE;have eI:=jq (show a0.eval (.tmp 6) = .pointer (some ⟨Bh,0,none⟩) by rw[cE];rfl);have pX:=jq (show a0.eval (.tmp 13) = .int .i64 (q:Nat) by rw[cE];rfl);have pZ:=jq (show a0.eval (.tmp 9) = .pointer (some ⟨W.heap.size,0,none⟩) by rw[cE];rfl);have HM:=jq (show a0.tmps.size=101 by rw[cE];rfl);clear cE;refine Ft (by kernel_rfl) (by kernel_rfl) (by rintro⟨_,_,h⟩;exact h) ?_;refine iy 12 (D:=[0,1,2,3,4,5,6,7,8,9,10,11,14,15]) (val:=eu g n cap q fA fn fc W.heap.size xf xt undef undef) la mT (vv HM.out) (by kernel_rfl) ?_ ?_
       ·intro i aU cn o ho a' hb aW;have k6':=adJ hb eI.out;have k13':=adJ hb pX.out;have k9':=adJ hb pZ.out;simp[Act.eval] at k6' k13' k9'
        repeat' (rcases aU with _ | ⟨_,aU⟩)
        all_goals first
         | (exfalso;simp at cn;done)
         | (cases ho
            try simp[Act.eval,Region.binds,eu,gN] at aW
            refine gZ (by simp[Region.wanted]) ?_;simp[Oper.quietAt,Oper.quietUpon,execOp,go_sem,eu,k6',k13',k9',b6,f6,c1,c2,lP,ji,aW])
       ·intro f listed a' hH hr hv;have av11:=hv 11;simp[Act.eval,eu,gN] at av11;simp only[wpOp];simp[Region.wanted];refine .inl ?_;simp[Oper.wp,execOp,go_sem,av11];obtain⟨wA,lR⟩:=acQ ((w9.alloc (.cells #[.int .i64 xf,.int .i64 xt] 110)).drew);rw[<-lR];have je:Below w9.heap.size w9 wA:=by rw[lR];exact ((vQ _ _).alloc (bQ _) _).drew
        have TV:wA.heap.size=w9.heap.size+1:=by rw[lR];simp[World.drew]
        have ua:Hid (wA.cell? ⟨w9.heap.size,0,none⟩=some (.int .i64 xf)/\wA.cell? ⟨w9.heap.size,1,none⟩=some (.int .i64 xt)):=jq (by rw[lR];exact⟨by simp[go_sem],by simp[go_sem]⟩);replace b6:=aaJ je b6;replace f6:=aaJ je f6;replace c1:=aaJ je c1;replace c2:=aaJ je c2;have qe:=jq (uh.out.keep je);have fS:=jq je;clear lR je;refine iy 13 (D:=[0,1,2,3,4,5,6,7,8,9,10,11,14,15,12]) (val:=eu g n cap q fA fn fc W.heap.size xf xt (.slice (some ⟨w9.heap.size,0,none⟩) 1 1) undef) la mT (hH.next la mT hr) (by kernel_rfl) ?_ ?_
        ·intro i aU cn o ho a' hb aW;have k6':=adJ hb eI.out;have k13':=adJ hb pX.out;have k9':=adJ hb pZ.out;simp[Act.eval] at k6' k13' k9'
         repeat' (rcases aU with _ | ⟨_,aU⟩)
         all_goals first
          | (exfalso;simp at cn;done)
          | (cases ho
             try simp[Act.eval,Region.binds,eu,gN] at aW
             refine gZ (by simp[Region.wanted]) ?_;simp[Oper.quietAt,Oper.quietUpon,execOp,go_sem,eu,k6',k13',k9',b6,f6,c1,c2,lP,ji,aW])
        ·intro f listed a' hH hr hv;have av6:=hv 6;have av12:=hv 12;simp[eu,gN] at av6 av12;simp only[wpOp];simp[Region.wanted];refine .inl ?_;refine Ml wA (.tmp 68) (.tmp 74) rfl w6.heap.size (.slice fA fn fc) tl av6 (qe.out.rows.fresh _ (gQ HY.out)) w9.heap.size xf xt av12 ua.out.1 ua.out.2 (by have:=CI.out;omega) (by omega) ?_;intro v8 wB eH bX jE;obtain⟨eA,ec,rfl⟩:=KW eH (n:=(fn+1)) (by rw[List.length_append,ue.out];rfl);have TW:=bX.size;have ffA:wA.frozen? ⟨g,q * 8+6,none⟩=false:=qe.out.rows.row.frozenAt fT.out _;have nO:wB.heap[Bh]?=wA.heap[Bh]?:=bX.block Bh (by omega) (λe=>by have:=(nn.out Bh e.symm).1;omega);have qT:wB.heap[g]?=wA.heap[g]?:=bX.block g (by omega) (λe=>(nn.out g e.symm).2.1 rfl);have qS:wB.heap[W.heap.size]?=wA.heap[W.heap.size]?:=bX.block W.heap.size (by omega) (λe=>(nn.out _ e.symm).2.2 rfl);replace b6:=(iQ (a:=⟨Bh,0,none⟩) nO).trans b6;replace f6:=(iQ (a:=⟨g,q * 8+6,none⟩) qT).trans f6;replace c1:=(iQ (a:=⟨W.heap.size,1,none⟩) qS).trans c1;replace c2:=(iQ (a:=⟨W.heap.size,2,none⟩) qS).trans c2;have ff:=(World.frozen?_of_block (a:=⟨g,q * 8+6,none⟩) qT).trans ffA;have H8:=jq (And.intro eH (And.intro bX jE));clear eH bX jE nO qT qS ffA;refine iy 16 (D:=[0,1,2,3,4,5,6,7,8,9,10,11,14,15,12,13]) (val:=eu g n cap q fA fn fc W.heap.size xf xt (.slice (some ⟨w9.heap.size,0,none⟩) 1 1) (.slice eA (fn+1) ec)) la mT (hH.next la mT hr) (by kernel_rfl) ?_ ?_
         ·intro i aU cn o ho a' hb aW;have k6':=adJ hb eI.out;have k13':=adJ hb pX.out;have k9':=adJ hb pZ.out;simp[Act.eval] at k6' k13' k9'
          repeat' (rcases aU with _ | ⟨_,aU⟩)
          all_goals first
           | (exfalso;simp at cn;done)
           | (cases ho
              try simp[Act.eval,Region.binds,eu,gN] at aW
              refine gZ (by simp[Region.wanted]) ?_;simp[Oper.quietAt,Oper.quietUpon,execOp,go_sem,eu,k6',k13',k9',b6,f6,c1,c2,lP,ji,aW])
         ·intro f listed a' hH hr hv;have av13:=hv 13;have av15:=hv 15;simp[Act.eval,eu,gN] at av13 av15;simp only[wpOp];simp[Region.wanted];refine .inl ?_;simp[Oper.wp,execOp,go_sem,av13,av15,f6,ff];refine BE hH hr HM.out la (by kernel_rfl) λeP=>?_
          ·rw[eP,nc.out];simp[li,Act.put,eu,gN];clear hv hH eP;clear b6 f6 c1 c2 ff;obtain⟨W',hW'⟩:=abY (wB.setCell ⟨g,q * 8+6,none⟩ (.slice eA (fn+1) ec));have Ca:Hid (PubK S W₂ w6.heap.size z (λk=>M k\/(Value.slice eA (fn+1) ec).ownBlock=some k) (us.set q (x,tl ++ [⟨xf,xt⟩],.slice eA (fn+1) ec)) (.slice (some ⟨g,0,none⟩) n cap) W'):=jq (by rw[<-hW'];exact qe.out.changed fT.out HY.out H8.out.2.1 H8.out.1 H8.out.2.2);have iA:Hid (Below w6.heap.size w9 W'):=jq (by rw[<-hW'];exact ((fS.out.acJ).trans ((vQ _ _).grown H8.out.2.1 (by omega) (λk e=>(nn.out k e).1))).setCell (by dsimp only;omega) _);have CD:Hid ((us.set q (x,tl ++ [(⟨xf,xt⟩:Np.Span)],Value.slice eA (fn+1) ec)).map (·.1)=us.map (·.1)):=jq (LD HY.out rfl);rw[hW'];have Kn:W'.heap.size=wB.heap.size:=by rw[<-hW'];simp[World.setCell]
           gi_wp2_with fail;go_roundw
           case measure=>simp[intOf] <;> omega
           case rel=>exact⟨j+1,_,_,_,by omega,by go_num,by omega,jq (aeX xX.out iA.out),jq (aeX BW.out iA.out),jq (by rw[CD.out];exact xW.out.keep iA.out (by omega)),Ca,jq ⟨.inl qh.out.1,.inl qh.out.2.1,.inl qh.out.2.2⟩,jq (iC.out _)⟩
      ·have fK:(Np.kl (us.map (·.1))).lookup key=none:=by rw[<-sK];exact Np.UF GI.out yH.out hin
       rw[fK] at gd;simp only[Option.getD_none,Option.isSome_none] at gd;have JW:x∉Np.bZ ((psP PP ⟨xf,xt⟩ sets j).map (·.2)):=by rw[<-Bb iX.out];exact hin
       obtain⟨m,hm⟩:=abY us.length;have uo:=jq hm;have yw:Hid (m<=5000):=jq (by rw[<-hm];exact GU.out);obtain⟨wU,Ta,JS,kh⟩:=WY (P:=prog) w9 213 9 3 underlying213 underlying9 (Bh+1+1) _ BU.out key (.int .i64 ((m:Nat):Int)) fK;obtain⟨oA,oc,rfl⟩:=nj.out.rows.row.formN hm;have b6:=xY.out.cell;have iC:Hid (∀ v',((us ++ [((x,[],.slice none 0 0):PT)]).set m (x,[] ++ [⟨xf,xt⟩],v')).map (λx=>(x.1,x.2.1))=Np.cY (psP PP ⟨xf,xt⟩ sets (j+1))):=jq (λv'=>by rw[gu.out,<-hm];exact Vg iX.out JW _ _ v');have hzU:wU.heap.size=w9.heap.size:=kh.size;have Gg:=jq (nj.out.touch cJ.out.2.1 (.inl uy.out.2.2) (λe=>by have:=(nj.out.rows.lt e).1;omega) kh);have FR:Hid (Below X wr wU):=jq ((eb.out.acJ).trans (kh.below (by omega)));have FM:Hid (Boxed wU Bh 52 (.slice oA m oc)):=jq ((kh.block Bh (by omega)).trans xY.out);have M8:Hid (Boxed wU (Bh+1) 4 (.bool true)):=jq ((kh.block (Bh+1) (by omega)).trans FP.out);have M3:Hid (bR (Bh+1+1) (Np.kl ((us ++ [((x,[],.slice none 0 0):PT)]).map (·.1))) wU):=jq (by
        rw[List.map_append,List.map_cons,List.map_nil,Np.UG,sK,List.length_map,hm];exact JS)
       have Ny:Hid (wU.heap[W.heap.size]?=W₂.heap[W.heap.size]?):=jq ((kh.block _ (by omega)).trans ((eb.out.block _ (by omega)).trans (yt.out _ (by omega) yi.out)));clear hin fK JW hm sK JS zS;gi_wp2_with fail;replace b6:=FM.out.cell;replace kz:=(iQ (a:=⟨X+1,0,none⟩) (kh.block (X+1) (by omega))).trans kz;replace p0:=(iQ (a:=⟨wr.heap.size,0,none⟩) (kh.block wr.heap.size (by omega))).trans p0;replace p1:=(iQ (a:=⟨wr.heap.size,1,none⟩) (kh.block wr.heap.size (by omega))).trans p1;replace p2:=(iQ (a:=⟨wr.heap.size,2,none⟩) (kh.block wr.heap.size (by omega))).trans p2;replace p3:=(iQ (a:=⟨wr.heap.size,3,none⟩) (kh.block wr.heap.size (by omega))).trans p3;replace p4:=(iQ (a:=⟨wr.heap.size,4,none⟩) (kh.block wr.heap.size (by omega))).trans p4;clear Ta gd bx kh;refine BF λa0 cE=>?_;have nc:=jq cE;have eI:=jq (show a0.eval (.tmp 6) = .pointer (some ⟨Bh,0,none⟩) by rw[cE];rfl);have ox:=jq (show a0.eval (.tmp 3) = .pointer (some ⟨X+1,0,none⟩) by rw[cE];rfl);have me:=jq (show a0.eval (.tmp 11) = .pointer (some ⟨wr.heap.size,0,none⟩) by rw[cE];rfl);have HM:=jq (show a0.tmps.size=101 by rw[cE];rfl);clear cE;refine Ft (by kernel_rfl) (by kernel_rfl) (by rintro⟨_,_,h⟩;exact h) ?_;refine iy 3 (D:=[0,1,2]) (val:=iv oA m oc z ss x.set.type x.set.life dA dn dc gA gn gc undef undef undef) pN rt (vv HM.out) (by kernel_rfl) ?_ ?_
       ·intro i aU cn o ho a' hb aW;have k6':=adJ hb eI.out;have k3':=adJ hb ox.out;have k11':=adJ hb me.out;simp[Act.eval] at k6' k3' k11'
        repeat' (rcases aU with _ | ⟨_,aU⟩)
        all_goals first
         | (exfalso;simp at cn;done)
         | (cases ho
            try simp[Act.eval,Region.binds,iv,jN] at aW
            refine gZ (by simp[Region.wanted]) ?_;simp[Oper.quietAt,Oper.quietUpon,execOp,go_sem,iv,k6',k3',k11',b6,kz,p0,p1,p2,p3,p4,tz,aW])
       ·intro f listed a' hH hr hv;have av2:=hv 2;simp[Act.eval,iv,jN] at av2;simp only[wpOp];simp[Region.wanted];refine .inl ?_;simp[Oper.wp,go_sem,av2];refine (P6 ss x.set.type x.set.life _ x.set.data _ x.sigs (by have:=ym.out.1;omega) (by have:=ym.out.2;omega) wU.drew (mg.out wU.drew FR.out.drew) (Cc.out wU.drew FR.out.drew)).mono ?_;rintro e wC ⟨dv2,gv2,rfl,jH,vg⟩;have cV:Below wU.heap.size wU wC:=(vQ wU.heap.size wU).drew.trans vg;have Km:=cV.size;replace p0:=aaJ cV p0;replace p1:=aaJ cV p1;replace p2:=aaJ cV p2;replace p3:=aaJ cV p3;replace p4:=aaJ cV p4;replace b6:=aaJ cV b6;replace kz:=aaJ cV kz;have jP:Hid (xO wU.heap.size wC dv2 gv2 x.set.data x.sigs):=jq jH;obtain⟨dA2,dc2,rfl,_,_⟩:=ar ((jH (λ_=>False) (λ_ e=>e.elim)).1);obtain⟨gA2,gc2,rfl,_,_⟩:=ar ((jH (λ_=>False) (λ_ e=>e.elim)).2);rw[NG.out,N0.out] at jP |-;have Ge:=jq (Gg.out.keep cV);have BR:=jq cV;clear jH cV vg;dsimp only;refine iy 5 (D:=[0,1,2,4,3]) (val:=iv oA m oc z ss x.set.type x.set.life dA dn dc gA gn gc (.agg #[.string ss,.int .i64 x.set.type,.int .i64 x.set.life,.slice dA2 dn dc2,.slice gA2 gn gc2]) undef undef) pN rt (hH.next pN rt hr) (by kernel_rfl) ?_ ?_
        ·intro i aU cn o ho a' hb aW;have k6':=adJ hb eI.out;have k3':=adJ hb ox.out;have k11':=adJ hb me.out;simp[Act.eval] at k6' k3' k11'
         repeat' (rcases aU with _ | ⟨_,aU⟩)
         all_goals first
          | (exfalso;simp at cn;done)
          | (cases ho
             try simp[Act.eval,Region.binds,iv,jN] at aW
             refine gZ (by simp[Region.wanted]) ?_;simp[Oper.quietAt,Oper.quietUpon,execOp,go_sem,iv,k6',k3',k11',b6,kz,p0,p1,p2,p3,p4,tz,aW])
        ·intro f listed a' hH hr hv;have av4:=hv 4;simp[Act.eval,iv,jN] at av4;simp only[wpOp];simp[Region.wanted];refine .inl ?_;simp[tz] at av4;simp[Oper.wp,execOp,go_sem,av4];obtain⟨wX,mH⟩:=acQ (wC.alloc (.cells #[.string z,.string ss,.int .i64 x.set.type,.int .i64 x.set.life,.slice dA2 dn dc2,.slice gA2 gn gc2,.slice none 0 0,.slice none 0 0] 57));rw[<-mH];have dh:Below wC.heap.size wC wX:=by rw[mH];exact (vQ _ _).alloc (bQ _) _
         have vp:fC wX wC.heap.size 0 [.string z,.string ss,.int .i64 x.set.type,.int .i64 x.set.life,.slice dA2 dn dc2,.slice gA2 gn gc2,.slice none 0 0,.slice none 0 0]:=λi v hi=>by
          rw[mH]
          match i,hi with
          | 0,hi=>cases hi;simp[go_sem]
          | 1,hi=>cases hi;simp[go_sem]
          | 2,hi=>cases hi;simp[go_sem]
          | 3,hi=>cases hi;simp[go_sem]
          | 4,hi=>cases hi;simp[go_sem]
          | 5,hi=>cases hi;simp[go_sem]
          | 6,hi=>cases hi;simp[go_sem]
          | 7,hi=>cases hi;simp[go_sem]
          | i+8,hi=>simp at hi
         have TY:=dh.size;replace p0:=aaJ dh p0;replace p1:=aaJ dh p1;replace p2:=aaJ dh p2;replace p3:=aaJ dh p3;replace p4:=aaJ dh p4;replace b6:=aaJ dh b6;replace kz:=aaJ dh kz;have t6:=jq vp;have uj:=jq (Ge.out.keep dh);have BX:=jq dh;have nu:Hid (ml z (aR wX M) wX.heap.size [.string z,.string ss,.int .i64 x.set.type,.int .i64 x.set.life,.slice dA2 dn dc2,.slice gA2 gn gc2,.slice none 0 0,.slice none 0 0] (x,[],.slice none 0 0)):=jq (by
          have h1:=jP.out M (λk hk=>Gg.out.lt k hk);have h2:=(Leaves'.of_below (M:=M) dh).slr bq gO bD h1.1;have h3:=(Leaves'.of_below (M:=M) dh).slr cC jO cZ h1.2;exact⟨ss,_,_,none,0,0,rfl,rfl,GS.out.1,GS.out.2,h2,h3⟩)
         clear mH dh vp;refine iy 6 (D:=[0,1,2,4,3,5]) (val:=iv oA m oc z ss x.set.type x.set.life dA dn dc gA gn gc (.agg #[.string ss,.int .i64 x.set.type,.int .i64 x.set.life,.slice dA2 dn dc2,.slice gA2 gn gc2]) (.slice (some ⟨wC.heap.size,0,none⟩) 1 1) undef) pN rt (hH.next pN rt hr) (by kernel_rfl) ?_ ?_
         ·intro i aU cn o ho a' hb aW;have k6':=adJ hb eI.out;have k3':=adJ hb ox.out;have k11':=adJ hb me.out;simp[Act.eval] at k6' k3' k11'
          repeat' (rcases aU with _ | ⟨_,aU⟩)
          all_goals first
           | (exfalso;simp at cn;done)
           | (cases ho
              try simp[Act.eval,Region.binds,iv,jN] at aW
              refine gZ (by simp[Region.wanted]) ?_;simp[Oper.quietAt,Oper.quietUpon,execOp,go_sem,iv,k6',k3',k11',b6,kz,p0,p1,p2,p3,p4,tz,aW])
         ·intro f listed a' hH hr hv;have av0:=hv 0;have av5:=hv 5;simp[iv,jN] at av0 av5;simp only[wpOp];simp[Region.wanted];refine .inl ?_;refine Fv (R:=ml z) (M:=M) wX (.tmp 52) (.tmp 57) 52 rfl w6.heap.size sF ih (.agg #[.string ⟨#[]⟩,.string ⟨#[]⟩,.int .i64 0,.int .i64 0,.slice none 0 0,.slice none 0 0,.slice none 0 0,.slice none 0 0]) 144 underlying52 SL SH SI SJ rfl (by decide) (.slice oA m oc) us av0 uj.out.rows.row (some ⟨wC.heap.size,0,none⟩) 1 [(x,[],.slice none 0 0)] av5 (E1 rfl nu.out t6.out) (WM z) (by rw[uo.out];have:=yw.out;simp[maxLen];omega) (by rw[uo.out];have:=yw.out;simp;omega) (by omega) (Bn z) (Bp z) (Bo z) ?_;intro v8 wY eH bX jE;obtain⟨A8,c8,rfl⟩:=eH.formN (n:=m+1) (by rw[List.length_append,uo.out];rfl);have TZ:=bX.size;have pz:∀ k,(Value.slice oA m oc).ownBlock=some k->w6.heap.size<=k/\k<wr.heap.size:=λk e=>by have h1:=eZ.out.rows.row.lt k e;exact h1
          have iP:wY.heap[wr.heap.size]?=wX.heap[wr.heap.size]?:=bX.block _ (by omega) (λe=>by have:=(pz _ e.symm).2;omega);have nO:wY.heap[Bh]?=wX.heap[Bh]?:=bX.block _ (by omega) (λe=>by have:=(pz _ e.symm).1;omega);have JG:wY.heap[X+1]?=wX.heap[X+1]?:=bX.block _ (by omega) (λe=>by have:=(pz _ e.symm).1;omega);replace p0:=(iQ (a:=⟨wr.heap.size,0,none⟩) iP).trans p0;replace p1:=(iQ (a:=⟨wr.heap.size,1,none⟩) iP).trans p1;replace p2:=(iQ (a:=⟨wr.heap.size,2,none⟩) iP).trans p2;replace p3:=(iQ (a:=⟨wr.heap.size,3,none⟩) iP).trans p3;replace p4:=(iQ (a:=⟨wr.heap.size,4,none⟩) iP).trans p4;replace b6:=(iQ (a:=⟨Bh,0,none⟩) nO).trans b6;replace kz:=(iQ (a:=⟨X+1,0,none⟩) JG).trans kz;have FN:Hid (Boxed wY Bh 52 (.slice oA m oc)):=jq (nO.trans ((BX.out.block Bh (by omega)).trans ((BR.out.block Bh (by omega)).trans FM.out)));have Nz:Hid (wY.heap[W.heap.size]?=wU.heap[W.heap.size]?):=jq ((bX.block _ (by omega) (λe=>by
           rcases uj.out.own _ (.inl e.symm) with h1 | h1
           ·exact yi.out h1
           ·omega)).trans ((BX.out.block _ (by omega)).trans (BR.out.block _ (by omega))))
          have Nh:Hid (Below w6.heap.size wX wY):=jq ((vQ _ _).grown bX (by omega) (λk e=>(pz k e).1));have lu:=jq (uj.out.push eH bX jE);clear eH bX jE iP nO JG;refine iy 7 (D:=[0,1,2,4,3,5,6]) (val:=iv oA m oc z ss x.set.type x.set.life dA dn dc gA gn gc (.agg #[.string ss,.int .i64 x.set.type,.int .i64 x.set.life,.slice dA2 dn dc2,.slice gA2 gn gc2]) (.slice (some ⟨wC.heap.size,0,none⟩) 1 1) (.slice A8 (m+1) c8)) pN rt (hH.next pN rt hr) (by kernel_rfl) ?_ ?_
          ·intro i aU cn o ho a' hb aW;have k6':=adJ hb eI.out;have k3':=adJ hb ox.out;have k11':=adJ hb me.out;simp[Act.eval] at k6' k3' k11'
           repeat' (rcases aU with _ | ⟨_,aU⟩)
           all_goals first
            | (exfalso;simp at cn;done)
            | (cases ho
               try simp[Act.eval,Region.binds,iv,jN] at aW
               refine gZ (by simp[Region.wanted]) ?_;simp[Oper.quietAt,Oper.quietUpon,execOp,go_sem,iv,k6',k3',k11',b6,kz,p0,p1,p2,p3,p4,tz,aW])
          ·intro f listed a' hH hr hv;have av6:=hv 6;simp[Act.eval,iv,jN] at av6;simp only[wpOp];simp[Region.wanted];refine .inl ?_;have bf:=FN.out.frozen;have k6':=(aZ hH.good.base (j:=6) (by decide) (by decide)).trans eI.out;simp[Act.eval] at k6';simp[Oper.wp,execOp,go_sem,av6,b6,bf,k6'];refine BE hH hr HM.out pN (by kernel_rfl) λeP=>?_
           ·rw[eP,nc.out];simp[li,Act.put,iv,jN];clear hv hH eP;clear p0 p1 p2 p3 p4 b6 kz bf;obtain⟨wZ,AJ⟩:=abY (wY.setCell ⟨Bh,0,none⟩ (.slice A8 (m+1) c8));have tZ:Turned Bh wY wZ:=by rw[<-AJ];exact⟨rfl,rfl,rfl,by simp[World.setCell],λi hi=>wQ _ _ _ _ hi⟩
            have hzZ:wZ.heap.size=wY.heap.size:=tZ.size;have xX:Hid (Boxed wZ Bh 52 (.slice A8 (m+1) c8)):=jq (by rw[<-AJ];exact FN.out.set _);have Dy:Below w6.heap.size wU wY:=((BR.out.acJ).trans (BX.out.acJ)).trans Nh.out;have BW:Hid (Boxed wZ (Bh+1) 4 (.bool true)):=jq ((tZ.block (Bh+1) (by omega)).trans (aeX M8.out Dy));have xW:Hid (bR (Bh+1+1) (Np.kl ((us ++ [((x,[],.slice none 0 0):PT)]).map (·.1))) wZ):=jq ((M3.out.keep Dy (by omega)).stays (tZ.block _ (by omega)));obtain⟨u1,pI⟩:=abY (us ++ [((x,[],.slice none 0 0):PT)]);obtain⟨M1,DG⟩:∃ M1:Nat->Prop,(λk=>M k\/(Value.slice A8 (m+1) c8).ownBlock=some k)=M1:=⟨_,rfl⟩;have uh:Hid (PubK S W₂ w6.heap.size z M1 u1 (.slice A8 (m+1) c8) wZ):=jq (by rw[<-pI,<-DG];exact lu.out.touch (.inl cJ.out.1) (.inl uy.out.1) (λe=>by have:=(lu.out.rows.lt e).1;omega) tZ);have qh:Hid (M1 Bh/\M1 (Bh+1+1)/\M1 (Bh+1)):=jq (by rw[<-DG];exact⟨.inl cJ.out.1,.inl cJ.out.2.1,.inl cJ.out.2.2⟩);rw[pI] at xW iC;have HY:Hid (u1[m]?=some (x,[],.slice none 0 0)):=jq (by rw[<-pI,<-uo.out];simp);have fT:Hid (u1.length=m+1):=jq (by rw[<-pI,<-uo.out];simp);have ue:Hid (([]:List Np.Span).length=0):=jq rfl;have CI:Hid (([]:List Np.Span).length<=5000):=jq (by simp);obtain⟨g,cap,Ju,fw,Ea,qP⟩:=uh.out.rows.row.formSome fT.out (by omega);simp only[Value.slice.injEq] at Ju;obtain⟨rfl,-,rfl⟩:=Ju;have nn:Hid (∀ k,(Value.slice none 0 0).ownBlock=some k->w6.heap.size<=k/\k≠g/\k≠W.heap.size):=jq (λk e=>by cases e);have D0:=((tZ.block _ (by omega)).trans (Nz.out.trans Ny.out)).trans kr.out;have b6:=xX.out.cell;have f6:wZ.cell? ⟨g,m * 8+6,none⟩=some (.slice none 0 0):=D8 uh.out.rows.row HY.out;have c1:wZ.cell? ⟨W.heap.size,1,none⟩=some (.int .i64 xf):=by simp[World.cell?,D0]
            have c2:wZ.cell? ⟨W.heap.size,2,none⟩=some (.int .i64 xt):=by simp[World.cell?,D0]
            have lP:(0:Int)<=(m:Int):=by omega
            have ji:(m:Int)<(m:Int)+1:=by omega
            have pk:decide ((20000:Int)<(m:Int)+1)=false:=tQ (by have:=yw.out;omega);have SD:decide (20000<m+1)=false:=tQ (by have:=yw.out;omega);rw[AJ];have SC:W.heap.size<wZ.heap.size:=by omega
            clear D0 qP Dy tZ AJ pI DG;gi_wp2_with fail;refine BF λa0 cE=>?_;have nc:=jq cE;have eI:=jq (show a0.eval (.tmp 6) = .pointer (some ⟨Bh,0,none⟩) by rw[cE];rfl);have pX:=jq (show a0.eval (.tmp 13) = .int .i64 (m:Nat) by rw[cE];rfl);have pZ:=jq (show a0.eval (.tmp 9) = .pointer (some ⟨W.heap.size,0,none⟩) by rw[cE];rfl);have HM:=jq (show a0.tmps.size=101 by rw[cE];rfl);clear cE;refine Ft (by kernel_rfl) (by kernel_rfl) (by rintro⟨_,_,h⟩;exact h) ?_;refine iy 12 (D:=[0,1,2,3,4,5,6,7,8,9,10,11,14,15]) (val:=eu g (m+1) c8 m none 0 0 W.heap.size xf xt undef undef) la mT (vv HM.out) (by kernel_rfl) ?_ ?_
            ·intro i aU cn o ho a' hb aW;have k6':=adJ hb eI.out;have k13':=adJ hb pX.out;have k9':=adJ hb pZ.out;simp[Act.eval] at k6' k13' k9'
             repeat' (rcases aU with _ | ⟨_,aU⟩)
             all_goals first
              | (exfalso;simp at cn;done)
              | (cases ho
                 try simp[Act.eval,Region.binds,eu,gN] at aW
                 refine gZ (by simp[Region.wanted]) ?_;simp[Oper.quietAt,Oper.quietUpon,execOp,go_sem,eu,k6',k13',k9',b6,f6,c1,c2,lP,ji,aW])
            ·intro f listed a' hH hr hv;have av11:=hv 11;simp[Act.eval,eu,gN] at av11;simp only[wpOp];simp[Region.wanted];refine .inl ?_;simp[Oper.wp,execOp,go_sem,av11];obtain⟨wA,lR⟩:=acQ ((wZ.alloc (.cells #[.int .i64 xf,.int .i64 xt] 110)).drew);rw[<-lR];have je:Below wZ.heap.size wZ wA:=by rw[lR];exact ((vQ _ _).alloc (bQ _) _).drew
             have TV:wA.heap.size=wZ.heap.size+1:=by rw[lR];simp[World.drew]
             have ua:Hid (wA.cell? ⟨wZ.heap.size,0,none⟩=some (.int .i64 xf)/\wA.cell? ⟨wZ.heap.size,1,none⟩=some (.int .i64 xt)):=jq (by rw[lR];exact⟨by simp[go_sem],by simp[go_sem]⟩);replace b6:=aaJ je b6;replace f6:=aaJ je f6;replace c1:=aaJ je c1;replace c2:=aaJ je c2;have qe:=jq (uh.out.keep je);have fS:=jq je;clear lR je;refine iy 13 (D:=[0,1,2,3,4,5,6,7,8,9,10,11,14,15,12]) (val:=eu g (m+1) c8 m none 0 0 W.heap.size xf xt (.slice (some ⟨wZ.heap.size,0,none⟩) 1 1) undef) la mT (hH.next la mT hr) (by kernel_rfl) ?_ ?_
             ·intro i aU cn o ho a' hb aW;have k6':=adJ hb eI.out;have k13':=adJ hb pX.out;have k9':=adJ hb pZ.out;simp[Act.eval] at k6' k13' k9'
              repeat' (rcases aU with _ | ⟨_,aU⟩)
              all_goals first
               | (exfalso;simp at cn;done)
               | (cases ho
                  try simp[Act.eval,Region.binds,eu,gN] at aW
                  refine gZ (by simp[Region.wanted]) ?_;simp[Oper.quietAt,Oper.quietUpon,execOp,go_sem,eu,k6',k13',k9',b6,f6,c1,c2,lP,ji,aW])
             ·intro f listed a' hH hr hv;have av6:=hv 6;have av12:=hv 12;simp[eu,gN] at av6 av12;simp only[wpOp];simp[Region.wanted];refine .inl ?_;refine Ml wA (.tmp 68) (.tmp 74) rfl w6.heap.size (.slice none 0 0) [] av6 (qe.out.rows.fresh _ (gQ HY.out)) wZ.heap.size xf xt av12 ua.out.1 ua.out.2 (by have:=CI.out;omega) (by omega) ?_;intro v8 wB eH bX jE;obtain⟨eA,ec,rfl⟩:=KW eH (n:=1) (by rw[List.length_append,ue.out];rfl);have TW:=bX.size;have ffA:wA.frozen? ⟨g,m * 8+6,none⟩=false:=qe.out.rows.row.frozenAt fT.out _;have nO:wB.heap[Bh]?=wA.heap[Bh]?:=bX.block Bh (by omega) (λe=>by have:=(nn.out Bh e.symm).1;omega);have qT:wB.heap[g]?=wA.heap[g]?:=bX.block g (by omega) (λe=>(nn.out g e.symm).2.1 rfl);have qS:wB.heap[W.heap.size]?=wA.heap[W.heap.size]?:=bX.block W.heap.size (by omega) (λe=>(nn.out _ e.symm).2.2 rfl);replace b6:=(iQ (a:=⟨Bh,0,none⟩) nO).trans b6;replace f6:=(iQ (a:=⟨g,m * 8+6,none⟩) qT).trans f6;replace c1:=(iQ (a:=⟨W.heap.size,1,none⟩) qS).trans c1;replace c2:=(iQ (a:=⟨W.heap.size,2,none⟩) qS).trans c2;have ff:=(World.frozen?_of_block (a:=⟨g,m * 8+6,none⟩) qT).trans ffA;have H8:=jq (And.intro eH (And.intro bX jE));clear eH bX jE nO qT qS ffA;refine iy 16 (D:=[0,1,2,3,4,5,6,7,8,9,10,11,14,15,12,13]) (val:=eu g (m+1) c8 m none 0 0 W.heap.size xf xt (.slice (some ⟨wZ.heap.size,0,none⟩) 1 1) (.slice eA 1 ec)) la mT (hH.next la mT hr) (by kernel_rfl) ?_ ?_
              ·intro i aU cn o ho a' hb aW;have k6':=adJ hb eI.out;have k13':=adJ hb pX.out;have k9':=adJ hb pZ.out;simp[Act.eval] at k6' k13' k9'
               repeat' (rcases aU with _ | ⟨_,aU⟩)
               all_goals first
                | (exfalso;simp at cn;done)
                | (cases ho
                   try simp[Act.eval,Region.binds,eu,gN] at aW
                   refine gZ (by simp[Region.wanted]) ?_;simp[Oper.quietAt,Oper.quietUpon,execOp,go_sem,eu,k6',k13',k9',b6,f6,c1,c2,lP,ji,aW])
              ·intro f listed a' hH hr hv;have av13:=hv 13;have av15:=hv 15;simp[Act.eval,eu,gN] at av13 av15;simp only[wpOp];simp[Region.wanted];refine .inl ?_;simp[Oper.wp,execOp,go_sem,av13,av15,f6,ff];refine BE hH hr HM.out la (by kernel_rfl) λeP=>?_
               ·rw[eP,nc.out];simp[li,Act.put,eu,gN];clear hv hH eP;clear b6 f6 c1 c2 ff;obtain⟨W',hW'⟩:=abY (wB.setCell ⟨g,m * 8+6,none⟩ (.slice eA 1 ec));have Ca:Hid (PubK S W₂ w6.heap.size z (λk=>M1 k\/(Value.slice eA 1 ec).ownBlock=some k) (u1.set m (x,[] ++ [⟨xf,xt⟩],.slice eA 1 ec)) (.slice (some ⟨g,0,none⟩) (m+1) c8) W'):=jq (by rw[<-hW'];exact qe.out.changed fT.out HY.out H8.out.2.1 H8.out.1 H8.out.2.2);have iA:Hid (Below w6.heap.size wZ W'):=jq (by rw[<-hW'];exact ((fS.out.acJ).trans ((vQ _ _).grown H8.out.2.1 (by omega) (λk e=>(nn.out k e).1))).setCell (by dsimp only;omega) _);have CD:Hid ((u1.set m (x,[] ++ [(⟨xf,xt⟩:Np.Span)],Value.slice eA 1 ec)).map (·.1)=u1.map (·.1)):=jq (LD HY.out rfl);rw[hW'];have Kn:W'.heap.size=wB.heap.size:=by rw[<-hW'];simp[World.setCell]
                gi_wp2_with fail;go_roundw
                case measure=>simp[intOf] <;> omega
                case rel=>exact⟨j+1,_,_,_,by omega,by go_num,by omega,jq (aeX xX.out iA.out),jq (aeX BW.out iA.out),jq (by rw[CD.out];exact xW.out.keep iA.out (by omega)),Ca,jq ⟨.inl qh.out.1,.inl qh.out.2.1,.inl qh.out.2.2⟩,jq (iC.out _)⟩
     ·obtain rfl:j=xn:=by omega
      obtain⟨IX,kI⟩:=eZ.out.stop;have Cz:=jq IX;have OZ:=jq kI;have O1:Hid (RdStep (λk=>k=Bh\/k=Bh+1\/k=Bh+1+1) w6 wr):=jq (ed.out.trans eZ.out.rd (λk e=>by have:=gz.out k e;omega));clear IX kI;gi_wp2_with fail;refine⟨λk=>S k\/(W₂.heap.size<=k/\k<wr.heap.size),eZ.out.rd.mono (λk e=>.inl e),λk e=>?_,λk e=>?_,us,ov,_,.inl uy.out.1,.inl uy.out.2.1,.inl uy.out.2.2,OZ.out,λk e=>?_,λk e=>.inr e,.inl cJ.out.1,.inl cJ.out.2.2,.inl cJ.out.2.1,rJ.out,?_,FK.out,Cz.out,?_,O1.out⟩
      ·rcases e with e | e
       ·exact .inl (.inl e)
       ·exact .inr e.1
      ·rcases e with e | e
       ·have:=O5.out k e;omega
       ·exact e.2
      ·rcases e with e | e
       ·exact gz.out k e
       ·right;right;right;omega
      ·have e:(!(pre ++ [((⟨xh,xf,xt,xs,xA,j,xc⟩,cc):CV×Np.Copy)]).isEmpty)=true:=by simp
       rw[e];exact FQ.out
      ·rw[tU.out,<-We G3.out];exact iX.out
end
section
open Go.RowKit
noncomputable def Np.mU(h:Np.Hist)(z:List UInt8):Int×List Np.Held:=if Np.yes (Np.qv h z) then (if Np.yes (Np.rZ h z) then (0,Np.pub h.copies z) else (4,[])) else (1,[])
noncomputable def Np.rF(h:Np.Hist):Int×List (List UInt8):=if Np.yes (Np.VHist h) then (0,Np.apexes h.copies) else (1,[])
theorem Np.Wr{h:Np.Hist}{z:List UInt8}(k:¬ Np.qv h z):Np.mU h z=(1,[]):=by unfold Np.mU;rw[Np.bP k];rfl
theorem Np.Ws{h:Np.Hist}{z:List UInt8}(k:Np.qv h z)(k2:¬ Np.rZ h z):Np.mU h z=(4,[]):=by unfold Np.mU;rw[Np.dz k,Np.bP k2];rfl
theorem Np.Le{h:Np.Hist}{z:List UInt8}(k:Np.qv h z)(k2:Np.rZ h z):Np.mU h z=(0,Np.pub h.copies z):=by unfold Np.mU;rw[Np.dz k,Np.dz k2];rfl
theorem Np.Mv{h:Np.Hist}(k:Np.VHist h):Np.rF h=(0,Np.apexes h.copies):=by unfold Np.rF;rw[Np.dz k];rfl
theorem Np.Mu{h:Np.Hist}(k:¬ Np.VHist h):Np.rF h=(1,[]):=by unfold Np.rF;rw[Np.bP k];rfl
structure oG(w:World)(e:List Value)(h:Np.Hist):Prop where
 rh:oS w w.heap.size e h
 use:Np.Use h
 sums:Np.kC h
theorem oG.keep{w w':World}{e:List Value}{h:Np.Hist}(k:oG w e h)(hb:Below w.heap.size w w'):oG w' e h:=
 ⟨Lo _ _ _ _ _ (Ln _ _ _ _ _ k.rh hb) hb.size,k.use,k.sums⟩
structure i6(n:Nat)(w:World):Prop where
 rules:dS w n
 pow:fG w
 lt:1<n
theorem i6.keep{n:Nat}{w w':World}(k:i6 n w)(hb:Below n w w'):i6 n w':=⟨k.rules.keep hb,k.pow.keepAt hb k.lt,k.lt⟩
theorem i6.more{n m:Nat}{w:World}(k:i6 n w)(h:n<=m):i6 m w:=⟨k.rules.more h,k.pow,lQ k.lt h⟩
theorem i6.next{w w':World}(k:i6 w.heap.size w)(hb:Below w.heap.size w w'):i6 w'.heap.size w':=(k.keep hb).more hb.size
theorem PI{h:Np.Hist}(v:Np.VHist h):∀ x∈Np.apexes h.copies,x.length<=140737488355328:=λx hx=>by
 obtain⟨c,hc,rfl⟩:=Np.xg.1 hx;have h1:=(Np.rG (v.each c hc).zone).1
 have:=(Np.tt h1).1
 omega
theorem Hh(l:List Np.Copy):(Np.apexes l).length<=l.length:=by
 unfold Np.apexes;rw[(Np.Bv _).length_eq]
 have:=Np.tL (l.map (·.zone.apex))
 rwa [List.length_map] at this
theorem av.around{base n:Nat}{w:World}{v:Value}{ps:List Np.Span}(h:av base w v ps)(hn:n<=base)(hl:ps.length<=140737488355328):bw cm 2 0 n w v ps:=λM hM=>by
 have h1:av base (aR w M) v ps:=bY h (λg hg=>iU (λe=>by have:=hM g e;have:=(World.ownsRow.lt h g hg).1;omega));have h2:=h1.slr hl;rwa [eW] at h2
theorem cD.around{base n:Nat}{w:World}{v:Value}{ps:List (List UInt8)}(h:cD base w v ps)(hn:n<=base)(hl:ps.length<=140737488355328)(hs:∀ x∈ps,x.length<=140737488355328):bw RTx 1 0 n w v ps:=λM hM=>by
 have h1:cD base (aR w M) v ps:=bY h (λg hg=>iU (λe=>by have:=hM g e;have:=(World.ownsRow.lt h g hg).1;omega));have h2:=h1.slr hl hs;rwa [eW] at h2
structure WAt(n:Nat)(w:World)(e:List Value)(x:Np.WorldP)(A1:Option Addr)(n1 c1:Nat)(A2:Option Addr)(n2 c2:Nat)(s:ByteArray)(ty lf:Int)(A3:Option Addr)(n3 c3:Nat)(A4:Option Addr)(n4 c4:Nat):Prop where
 val:e = [.slice A1 n1 c1,.slice A2 n2 c2,.string s,.int .i64 ty,.int .i64 lf,.slice A3 n3 c3,.slice A4 n4 c4]
 all:CX w w.heap.size e x
 zones:bw qw 3 0 n w (.slice A2 n2 c2) x.zones
 len:x.zones.length=n2
theorem WAt.keep{n:Nat}{w w':World}{e:List Value}{x:Np.WorldP}{A1:Option Addr}{n1 c1:Nat}{A2:Option Addr}{n2 c2:Nat}{s:ByteArray}{ty lf:Int}{A3:Option Addr}{n3 c3:Nat}{A4:Option Addr}{n4 c4:Nat}(h:WAt n w e x A1 n1 c1 A2 n2 c2 s ty lf A3 n3 c3 A4 n4 c4)(hb:Below w.heap.size w w'):WAt n w' e x A1 n1 c1 A2 n2 c2 s ty lf A3 n3 c3 A4 n4 c4:=
 ⟨h.val,W4 _ _ _ _ _ (WZ _ _ _ _ _ h.all hb) hb.size,h.zones.keep Bm E2 hb,h.len⟩
theorem cPub(e:List Value)(h:Np.Hist)(z:ByteArray)(hz:z.size<=140737488355328)(w:World)(hV:i6 w.heap.size w)(k:oG w e h) :
 Calls prog 61 #[.agg e.toArray,.string z] w λe w'=>∃ A n c,e = .returned (.tuple #[.slice A n c,.int .i64 (Np.mU h z.data.toList).1])/\(Np.mU h z.data.toList).2.length=n/\bw fU 8 0 w.heap.size w' (.slice A n c) (Np.mU h z.data.toList).2/\Below w.heap.size w w':=
 (Wy e h k.use.fewH k.sums z hz (k.use.pairs _) w hV.rules hV.pow k.rh).mono λe w' ⟨h1,h2⟩=>by
   rcases h1 with ⟨n1,rfl⟩ | ⟨n1,⟨n2,rfl⟩ | ⟨n2,v',rfl,h3⟩⟩
   ·rw[Np.Wr n1];exact⟨_,_,_,rfl,rfl,bw.nil _ _ _ _,h2⟩
   ·rw[Np.Ws n1 n2];exact⟨_,_,_,rfl,rfl,bw.nil _ _ _ _,h2⟩
   ·rw[Np.Le n1 n2];obtain⟨A,c,rfl⟩:=h3.form;exact⟨_,_,_,rfl,rfl,h3,h2⟩
theorem cZon(e:List Value)(h:Np.Hist)(w:World)(hV:i6 w.heap.size w)(k:oG w e h) :
 Calls prog 60 #[.agg e.toArray] w λe w'=>∃ A n c,e = .returned (.tuple #[.slice A n c,.int .i64 (Np.rF h).1])/\(Np.rF h).2.length=n/\bw RTx 1 0 w.heap.size w' (.slice A n c) (Np.rF h).2/\Below w.heap.size w w':=
 (YU e h k.use.fewH w hV.rules k.rh).mono λe w' ⟨h1,h2⟩=>by
   rcases h1 with ⟨n1,v',rfl,h3⟩ | ⟨n1,rfl⟩
   ·rw[Np.Mv n1];have h4:=h3.around (bQ _) (by have h4:=Hh h.copies;have h5:=k.use.copies;omega) (PI n1);obtain⟨A,c,rfl⟩:=h4.form;exact⟨_,_,_,rfl,rfl,h4,h2⟩
   ·rw[Np.Mu n1];exact⟨_,_,_,rfl,rfl,bw.nil _ _ _ _,h2⟩
end
section
open Go.RowKit Go.Shelf
theorem aO.aroundN{α:Type}{R:agJ α}{sz:Nat}{e:TypeId}{base:Nat}{w:World}{v:Value}{xs:List α}(h:aO R sz e base base w v xs)(hm:cB R)(hr:∀ w' r x,R w base r x->R w' base r x)(hB:base<=w.heap.size)(hl:xs.length<=140737488355328):bw R sz 0 base w v xs:=λM hM=>by
 have h1:=(h.sans (M:=M) (λk hk=>(hM k hk).2) (hr _)).slr hm (by rw[eW];exact hB) hl;rwa [eW] at h1
theorem bw.set{α:Type}{R:agJ α}{sz n:Nat}{w:World}{v:Value}{xs:List α}(h:bw R sz 0 n w v xs)(hk:cj R)(hs:ef R)(hm:cB R){p:Addr}(hp:p.block<n)(u:Value):bw R sz 0 n (w.setCell p u) v xs:=λM hM=>by
 have h1:=h (λk=>M k\/k=p.block) (λk e=>⟨jQ _,e.elim (λe=>(hM k e).2) (λe=>e ▸ hp)⟩);exact (Leaves'.slr hk hs hm (Leaves'.setCell (λk=>M k\/k=p.block) w (.inr rfl) u) h1).sans hs (λk e=>.inl e)
theorem l9(w:World)(o1 o2:Obj):((w.alloc o1).alloc o2).drew.heap.size=w.heap.size+2/\((w.alloc o1).alloc o2).drew.heap[w.heap.size]?=some o1/\((w.alloc o1).alloc o2).drew.heap[w.heap.size+1]?=some o2/\Below w.heap.size w ((w.alloc o1).alloc o2).drew:=by
 have h1:=heap_alloc_new w o1;have h2:=heap_alloc_new (w.alloc o1) o2;have h3:Below (w.alloc o1).heap.size (w.alloc o1) ((w.alloc o1).alloc o2):=(vQ _ _).alloc (bQ _) _;have hz:(w.alloc o1).heap.size=w.heap.size+1:=by simp
 refine⟨?_,?_,?_,?_⟩
 ·show ((w.alloc o1).alloc o2).heap.size=_;simp
 ·show ((w.alloc o1).alloc o2).heap[w.heap.size]?=_;rw[h3.block _ (by omega)];exact h1
 ·show ((w.alloc o1).alloc o2).heap[w.heap.size+1]?=_;rw[<-hz];exact h2
 ·exact (((vQ _ _).alloc (bQ _) _).alloc (by simp) _).drew
theorem jz{w:World}{X:Nat}(l:List Value){T:TypeId}(h:w.heap[X]?=some (.cells l.toArray T (0,0))):dM w X l:=λi v hi=>by
 simp[World.cell?,h,hi]
theorem PM(w:World)(ty:TypeId)(q:Nat)(z:ByteArray)(hz:z.size<=140737488355328)(n a f u s:Int)(hc:dM w q [.string z,.int .i64 n,.int .i64 a,.int .i64 f,.int .i64 u,.int .u64 s]) :
 ∃ v' w',(Builtin.append_ #[40,40] ty #[.slice none 0 0,.slice (some ⟨q,0,none⟩) 1 1]).run prog w = .ok v' w'/\bw cr 6 0 w.heap.size w' v' [⟨z.data.toList,n,a,f,u,s⟩]/\Below w.heap.size w w':=by
 obtain⟨i0,hi,bd,aK,aC⟩:=info_parts Tryz.infoCloneSig;obtain⟨v',w',hr,r1,r2,_,_⟩:=run_append_own_at (P:=prog) w w.heap.size 40 ty 50 i0 (.agg #[.string ⟨#[]⟩,.int .i64 0,.int .i64 0,.int .i64 0,.int .i64 0,.int .u64 0]) 6 56 underlying40 hi bd aK aC rfl (by decide) (.slice none 0 0) 0 [] ⟨by simp,.inl ⟨rfl,rfl⟩⟩ ⟨q,0,none⟩ 1 1 [.string z,.int .i64 n,.int .i64 a,.int .i64 f,.int .i64 u,.int .u64 s] rfl (λj v hj=>by rw[show (⟨q,0,none⟩:Addr).add j=⟨q,j,none⟩ by cases j <;> simp[Addr.add]];exact hc j v hj) (λu hu=>by simp at hu;rcases hu with rfl | rfl | rfl | rfl | rfl | rfl <;> rfl) (by simp[maxLen]) (by simp) (bQ _);have hb:Below w.heap.size w w':=(vQ _ _).grown r2 (bQ _) (λk hk=>by cases hk);have ho:aO cr 6 50 w.heap.size w.heap.size w' v' [(⟨z.data.toList,n,a,f,u,s⟩:Np.Sig)]:=⟨[[.string z,.int .i64 n,.int .i64 a,.int .i64 f,.int .i64 u,.int .u64 s]],rfl,by simpa using r1,λi r x h1 h2=>by
  cases i with
  | zero=>simp at h1 h2;subst h1;subst h2;exact⟨rfl,z,rfl,hz,rfl⟩
  | succ i=>simp at h1⟩
 exact⟨v',w',hr,ho.aroundN cZ (λ_ _ _ h=>h) hb.size (by simp),hb⟩
theorem BH{P:Program}{w:World}{ops:Array Oper}{rest:List Oper}{o:Oper}{a:Act}{Q:Exit->Act->World->Prop}(fh:o.guard=none)(s x:Operand)(t:TypeId)(ho:o.op = .call { callee:=.builtin .append,args:=#[s,x],argTypes:=#[t,t] })
 (v u v':Value) (w':World) (hv:a.eval s=v) (hx:a.eval x=u) (hr:(Builtin.append_ #[t,t] o.type #[v,u]).run P w = .ok v' w') (h:wpList P ops Q rest (a.put o.dst v') w'):wpList P ops Q (o::rest) a w:=by
 refine wpList_plain fh λK hK=>?_;unfold Oper.wp execOp;simp only[ho,resolve,invoke,builtin,Sem.run_bind,Sem.run_pure,Result.andThen_ok,List.map_toArray,List.map_cons,List.map_nil,hv,hx,hr];exact hK _ _ h
def fH(ls:List Np.Signed)(nx R k:Nat)(w:World):Prop:=
 (∃ cur:Array Value,w.heap[R]?=some (.cells cur 42 (0,0))/\cur.size=15)/\∀ (j:Nat) (y:Np.Signed),j<k->ls[j]?=some y->
   ∃ (s:ByteArray) (dv gv:Value),s.data.toList=y.set.name/\s.size<=140737488355328/\(∀ (q:Nat) v,[Value.string s,.int .i64 y.set.type,.int .i64 y.set.life,dv,gv][q]?=some v->w.cell? ⟨R,j * 5+q,none⟩=some v)/\bw bI 3 0 nx w dv y.set.data/\bw cr 6 0 nx w gv y.sigs
theorem fH.keep{ls:List Np.Signed}{nx R k:Nat}{w w':World}(h:fH ls nx R k w)(hR:R<w.heap.size)(hb:Below w.heap.size w w'):fH ls nx R k w':=by
 obtain⟨⟨cur,h1,h2⟩,h3⟩:=h;refine⟨⟨cur,(hb.block R hR).trans h1,h2⟩,λj y hj hy=>?_⟩;obtain⟨s,dv,gv,e1,e2,e3,e4,e5⟩:=h3 j y hj hy;exact⟨s,dv,gv,e1,e2,λq v hq=>(hb.cell (p:=⟨R,j * 5+q,none⟩) hR).trans (e3 q v hq),e4.keep bq bD hb,e5.keep cC cZ hb⟩
theorem fH.set{ls:List Np.Signed}{nx R k m:Nat}{w:World}(h:fH ls nx R k w)(hR:R<nx)(hm:k * 5<=m)(u:Value):fH ls nx R k (w.setCell ⟨R,m,none⟩ u):=by
 obtain⟨⟨cur,h1,h2⟩,h3⟩:=h;refine⟨⟨cur.setIfInBounds m u,by simp[World.setCell,Array.getElem?_modify,h1],by simp[h2]⟩,λj y hj hy=>?_⟩;obtain⟨s,dv,gv,e1,e2,e3,e4,e5⟩:=h3 j y hj hy;refine⟨s,dv,gv,e1,e2,λq v hq=>?_,e4.set bq gO bD hR u,e5.set cC jO cZ hR u⟩;have AC:q<5:=(cQ.1 hq).1;have hne:(⟨R,m,none⟩:Addr)≠⟨R,j * 5+q,none⟩:=λe=>by injection e with _ e2 _;omega
 exact (xQ (h:=hne) ..).trans (e3 q v hq)
theorem fH.other{ls:List Np.Signed}{nx R k:Nat}{w:World}(h:fH ls nx R k w){p:Addr}(hp:p.block<nx)(hne:p.block≠R)(u:Value):fH ls nx R k (w.setCell p u):=by
 obtain⟨⟨cur,h1,h2⟩,h3⟩:=h;refine⟨⟨cur,by simp[World.setCell,Array.getElem?_modify,h1,hne],h2⟩,λj y hj hy=>?_⟩;obtain⟨s,dv,gv,e1,e2,e3,e4,e5⟩:=h3 j y hj hy;exact⟨s,dv,gv,e1,e2,λq v hq=>(World.cell?_setCell_far _ _ _ _ hne).trans (e3 q v hq),e4.set bq gO bD hp u,e5.set cC jO cZ hp u⟩
theorem fH.cell{ls:List Np.Signed}{nx R k m:Nat}{w:World}(h:fH ls nx R k w)(hm:m<15):(∃ u,w.cell? ⟨R,m,none⟩=some u)/\w.frozen? ⟨R,m,none⟩=false:=by
 obtain⟨⟨cur,h1,h2⟩,-⟩:=h;exact⟨by simp only[World.cell?,h1];exact⟨cur[m]'(by omega),by simp[pQ (by omega:m<cur.size)]⟩,by simp[World.frozen?,h1]⟩
theorem fH.size{ls:List Np.Signed}{nx R k:Nat}{w:World}(h:fH ls nx R k w):R<w.heap.size:=by
 obtain⟨⟨cur,h1,h2⟩,-⟩:=h;exact (eQ.1 h1).1
theorem fH.next{ls:List Np.Signed}{nx R k:Nat}{w:World}(h:fH ls nx R k w)(hR:R<nx)(hk:k<3)(y:Np.Signed)(hy:ls[k]?=some y)(s:ByteArray)(dv gv:Value)(h1:s.data.toList=y.set.name)(h2:s.size<=140737488355328)
 (h3:bw bI 3 0 nx w dv y.set.data) (h4:bw cr 6 0 nx w gv y.sigs):fH ls nx R (k+1) (w.setCells R (k * 5) [.string s,.int .i64 y.set.type,.int .i64 y.set.life,dv,gv]):=by
 have hc:∀ m,m<15->(w.cell? ⟨R,m,none⟩).isSome=true:=λm hm=>by
  obtain⟨u,hu⟩:=(h.cell hm).1;rw[hu];rfl
 have hin:=World.cell?_setCells_in R [.string s,.int .i64 y.set.type,.int .i64 y.set.life,dv,gv] (k * 5) w (λj hj=>hc _ (by simp at hj;omega));have hold:fH ls nx R k (w.setCells R (k * 5) [.string s,.int .i64 y.set.type,.int .i64 y.set.life,dv,gv]):=by
  simp only[World.setCells];exact ((((h.set hR (by omega) _).set hR (by omega) _).set hR (by omega) _).set hR (by omega) _).set hR (by omega) _
 have h3':bw bI 3 0 nx (w.setCells R (k * 5) [.string s,.int .i64 y.set.type,.int .i64 y.set.life,dv,gv]) dv y.set.data:=by
  simp only[World.setCells];exact ((((h3.set bq gO bD hR _).set bq gO bD hR _).set bq gO bD hR _).set bq gO bD hR _).set bq gO bD hR _
 have h4':bw cr 6 0 nx (w.setCells R (k * 5) [.string s,.int .i64 y.set.type,.int .i64 y.set.life,dv,gv]) gv y.sigs:=by
  simp only[World.setCells];exact ((((h4.set cC jO cZ hR _).set cC jO cZ hR _).set cC jO cZ hR _).set cC jO cZ hR _).set cC jO cZ hR _
 refine⟨hold.1,λj z hj hz=>?_⟩;by_cases SQ:j<k
 ·exact hold.2 j z SQ hz
 ·obtain rfl:j=k:=by omega
  obtain rfl:y=z:=by rw[hy] at hz;exact Option.some.inj hz
  refine⟨s,dv,gv,h1,h2,λq v hq=>?_,h3',h4'⟩;have AC:=(cQ.1 hq).1;rw[hin q AC];rw[<-hq,aQ AC]
theorem fH.around{ls:List Np.Signed}{nx R n:Nat}{w:World}(h:fH ls nx R 3 w)(hl:ls.length=3)(hn:n<=R)(hR:R<nx):bw cU 5 0 n w (.slice (some ⟨R,0,none⟩) 3 3) ls:=λM hM=>by
 refine⟨_,3,by rw[hl],by omega,by omega,λi x hx=>?_⟩;have hi:=(cQ.1 hx).1;obtain⟨s,dv,gv,e1,e2,e3,e4,e5⟩:=h.2 i x (by omega) hx;refine⟨R,0,[.string s,.int .i64 x.set.type,.int .i64 x.set.life,dv,gv],rfl,h.size,rfl,λq v hq=>?_,s,dv,gv,e1,e2,e4 M (λk e=>⟨jQ _,by have:=(hM k e).2;omega⟩),e5 M (λk e=>⟨jQ _,by have:=(hM k e).2;omega⟩),rfl⟩;rw[E3 (p:=⟨R,0+i * 5+q,none⟩) (λe=>by have:=(hM _ e).2;dsimp only at this;omega),Nat.zero_add];exact e3 q v hq
end
section
open Go.RowKit Go.Shelf
attribute [local go_sem] Oper.semAt_some
theorem Xb(a:ByteArray)(ha:a.size<=140737488355328)(l:List Np.Signed)(gE:l.length=3)(hn:∀ s∈l,s.set.name=a.data.toList)(fB:Np.VZone ⟨a.data.toList,l⟩)(f u:Int)(Sy:Np.pT f u=true)
 (jh:∀ x∈l,Np.oq x.set a a 1 1 f u=true) (A:Option Addr) (c kb:Nat) (w:World) (hR:dS w w.heap.size) (hd:SlR cU 5 w w.heap.size (.slice A 3 c) l) (sJ:kb<w.heap.size) (cN:w.cell? ⟨kb,0,none⟩=some (.int .i64 1)) (cO:w.cell? ⟨kb,1,none⟩=some (.int .i64 1)) :
 Calls prog 96 #[.agg #[.string a,.slice A 3 c],.slice (some ⟨kb,0,none⟩) 1 1,.int .i64 f,.int .i64 u] w
  λe w'=>∃ v',e = .returned (.tuple #[.agg #[.string a,v'],.int .i64 0])/\bw cU 5 0 w.heap.size w' v' (l.map (Np.l5 a f u))/\Below w.heap.size w w':=by
 have HD:=jq hd;have HN:=jq hn;have HR:=jq hR;have HL:=jq gE;have ky:=jq fB;have dO:=jq jh;have ux:=jq ha;obtain⟨X,hX⟩:=abY w.heap.size;obtain⟨w2,az⟩:=abY ((w.alloc (.cells #[.string a,.slice A 3 c] 44)).alloc (.cells #[.string ⟨#[]⟩,.slice none 0 0] 44));have aC:w2.heap.size=X+2:=by rw[<-az,<-hX];simp
 have ab:Below w.heap.size w w2:=by rw[<-az];exact ((vQ _ _).alloc (bQ _) _).alloc (by simp) _
 have ai:=jq ab;have de:Hid (dM w2 X [.string a,.slice A 3 c]):=jq (by
  rw[<-az,<-hX];exact (ft [.string a,.slice A 3 c] 44 rfl rfl).keep ((vQ _ _).alloc (bQ _) _) (by simp))
 have yK:Hid (w2.heap[X+1]?=some (.cells #[.string ⟨#[]⟩,.slice none 0 0] 44 (0,0))):=jq (by rw[<-az,show X+1=(w.alloc (.cells #[.string a,.slice A 3 c] 44)).heap.size by simp[hX]];exact heap_alloc_new _ _);have JH:kb<w2.heap.size:=by omega
 have q0:w2.cell? ⟨kb,0,none⟩=some (.int .i64 1):=(ab.cell (p:=⟨kb,0,none⟩) sJ).trans cN;have q1:w2.cell? ⟨kb,1,none⟩=some (.int .i64 1):=(ab.cell (p:=⟨kb,1,none⟩) sJ).trans cO;have oN:=jq (And.intro q0 q1);have k0:=de.out 0 _ rfl;have k1:=de.out 1 _ rfl;clear hd hn hR gE fB jh ha ab cN cO;go_enter func96,ntmps96;go_wp2_with fail;clear az;refine (Mf f u w2).mono ?_;rw[Sy];rintro e w' ⟨rfl,rfl⟩;go_wp2_with fail;refine (Fw a ux.out _ l (by have:=HL.out;omega) w' ((HR.out.keep ai.out).more ai.out.size) (HD.out.later da gm ai.out)).mono ?_;rw[Np.dz ky.out];rintro e w3 ⟨rfl,ae⟩;have gh:=ae.size;have ay:=aaK ai ae;have mf:=jq (de.out.keep ae (by omega));have Pk:=jq ((ae.block (X+1) (by omega)).trans yK.out);have qk:=jq (And.intro ((ae.cell (p:=⟨kb,0,none⟩) JH).trans oN.out.1) ((ae.cell (p:=⟨kb,1,none⟩) JH).trans oN.out.2));clear ae k0 k1 q0 q1;go_wp2_with fail;go_loopw [46] (λi wr=>∃ k:Nat,k<=1/\i = .int .i64 k/\Hid (Below w3.heap.size w3 wr)) (λi _=>1 - (intOf i).toNat)
 case atStart=>exact⟨0,by omega,rfl,jq (vQ _ _)⟩
 case round=>
  obtain⟨k,hk,rfl,HB⟩:=hrel;have ag:=HB.out.size;have Ec:kb<wr.heap.size:=by omega
  have SV:¬ kb=wr.heap.size:=by omega
  have Cy:=jq (And.intro (aaJ HB.out qk.out.1) (aaJ HB.out qk.out.2));have q0:=Cy.out.1;have q1:=Cy.out.2;by_cases aa:k<1
  ·obtain rfl:k=0:=by omega
   obtain⟨wa,gg⟩:=abY (wr.alloc (.cells #[.int .i64 1,.int .i64 1] 161));have eO:Below wr.heap.size wr wa:=by rw[<-gg];exact (vQ _ _).alloc (bQ _) _
   have uc:=jq (ft _ _ rfl gg);have d0:=uc.out 0 _ rfl;have d1:=uc.out 1 _ rfl;have x9:=jq eO;clear eO;go_wp2_with fail;clear gg;refine (Mc 1 1 wa).mono ?_;rw[show Np.rE 1 1=true from rfl];rintro e wb ⟨rfl,nG⟩;have ya:=jq (x9.out.trans (nG.mono x9.out.size));clear nG d0 d1 q0 q1;go_wp2_with fail;go_roundw
   case rel=>exact⟨1,by omega,by go_num,jq (HB.out.trans (ya.out.mono ag))⟩
   case measure=>simp[intOf] <;> omega
  ·obtain rfl:k=1:=by omega
   obtain⟨G,hG⟩:=abY wr.heap.size;obtain⟨w5,aB⟩:=abY (wr.alloc (.cells #[.int .i64 0,.int .i64 0] 161));have f9:=U6;have aA:Below wr.heap.size wr w5:=by rw[<-aB];exact (vQ _ _).alloc (bQ _) _
   have jo:w5.heap.size=G+1:=by rw[<-aB,<-hG];simp
   have vB:w5.heap[G]?=some (.cells #[.int .i64 0,.int .i64 0] 161 (0,0)):=by rw[<-aB,<-hG];exact heap_alloc_new _ _
   have q50:=(aA.cell (p:=⟨kb,0,none⟩) Ec).trans q0;have q51:=(aA.cell (p:=⟨kb,1,none⟩) Ec).trans q1;have Jh:=WT w5 G kb 3 vB q50 q51;obtain⟨w6,bB⟩:=abY (w5.setRow G #[.int .i64 1,.int .i64 1]);rw[bB] at Jh;have AI:w6=wr.alloc (.cells #[.int .i64 1,.int .i64 1] 161):=by rw[<-bB,<-aB,<-hG];exact World.setRow_alloc_new _ _ _ _
   have yq:Hid (dM w6 G [.int .i64 1,.int .i64 1]):=jq (ft _ _ hG AI.symm);have aI:Below wr.heap.size wr w6:=by rw[AI];exact (vQ _ _).alloc (bQ _) _
   have kj:w6.heap.size=G+1:=by rw[AI,<-hG];simp
   have dB:=jq (ay.out.trans ((HB.out.trans (aI.acJ)).acJ));have oz:=jq (mf.out.keep (HB.out.trans (aI.acJ)) (by omega));have Pl:=jq (((HB.out.trans (aI.acJ)).block (X+1) (by omega)).trans Pk.out);clear AI aI;go_wp2_with fail;clear Jh bB aB vB f9 aA q50 q51 q0 q1;refine (Xg _ _ _ w6).mono ?_;rintro e w' ⟨⟨v,rfl⟩,rfl⟩;go_wp2_with fail;clear aa hk Cy Ec SV;go_loopw [65] (λi wr=>∃ k:Nat,k<=1/\i = .int .i64 k/\Hid (Below w'.heap.size w' wr)) (λi _=>1 - (intOf i).toNat)
   case atStart=>exact⟨0,by omega,rfl,jq (vQ _ _)⟩
   case round=>
    obtain⟨k,hk,rfl,fD⟩:=hrel;have TB:=fD.out.size;have Cd:=jq (yq.out.keep fD.out (by omega));have eY:=jq (oz.out.keep fD.out (by omega));have Po:=jq ((fD.out.block (X+1) (by omega)).trans Pl.out);by_cases aa:k<1
    ·obtain rfl:k=0:=by omega
     have g0:=Cd.out 0 _ rfl;have g1:=Cd.out 1 _ rfl;have RE:G<wr.heap.size:=by omega
     go_wp2_with fail;go_quiet (fail);go_wp2_with fail;go_roundw
     case rel=>exact⟨1,by omega,by go_num,jq (below_drewN (fD.out.alloc TB _) _)⟩
     case measure=>simp[intOf] <;> omega
    ·obtain rfl:k=1:=by omega
     have eX:=aaK dB fD.out;have k0:=eY.out 0 _ rfl;have k1:=eY.out 1 _ rfl;go_wp2_with fail;refine (VJ a _ l HL.out HN.out wr (HD.out.later da gm eX.out)).mono ?_;rintro e w9 ⟨g,rfl,Jw,kM,bi⟩;have wV:=bi.size;have eb:=aaK eX bi;have yg:=jq (eY.out.keep bi (by omega));have Pm:=jq ((bi.block (X+1) (by omega)).trans Po.out);have NX:=jq (Cd.out.keep bi (by omega));have ON:=jq kM;have SB:g<w9.heap.size:=(eQ.1 kM).1;clear k0 k1 bi kM aa hk;have k0:=yg.out 0 _ rfl;have k1:=yg.out 1 _ rfl;have RP:X<w9.heap.size:=by omega
     have RQ:¬ X=w9.heap.size:=by omega
     have Z9:=U7;go_upto_region 19 with fail
     go_cut [16] from 87 to 93 (λvz wx=>∃ R Z:Nat,vz = .pointer (some ⟨Z,0,none⟩)/\w9.heap.size<=R/\w9.heap.size<=Z/\R≠Z/\R<wx.heap.size/\Z<wx.heap.size/\Hid (wx.heap[R]?=some (.cells #[.string ⟨#[]⟩,.int .i64 0,.int .i64 0,.slice none 0 0,.slice none 0 0,.string ⟨#[]⟩,.int .i64 0,.int .i64 0,.slice none 0 0,.slice none 0 0,.string ⟨#[]⟩,.int .i64 0,.int .i64 0,.slice none 0 0,.slice none 0 0] 42 (0,0)))/\Hid (dM wx Z [.string a,.slice (some ⟨R,0,none⟩) 3 3])/\Hid (Below w9.heap.size w9 wx))
     case first=>
      go_region
      all_goals
       go_wp2_with fail;go_meet
       first
        | exact⟨w9.heap.size+1,w9.heap.size,rfl,by omega,bQ _,by omega,by rw[(l9 w9 _ _).1];omega,by rw[(l9 w9 _ _).1];omega,jq (l9 w9 _ _).2.2.1,jq (jz [_,_] (l9 w9 _ _).2.1),jq (l9 w9 _ _).2.2.2⟩
        | exact⟨w9.heap.size,w9.heap.size+1,rfl,bQ _,by omega,by omega,by rw[(l9 w9 _ _).1];omega,by rw[(l9 w9 _ _).1];omega,jq (l9 w9 _ _).2.1,jq (jz [_,_] (l9 w9 _ _).2.2.1),jq (l9 w9 _ _).2.2.2⟩
     case rest=>
     obtain⟨R,Z,rfl,uX,ZB,uW,Zr,ZA,GP,HZ,BZ⟩:=hcut;have hzc:=BZ.out.size;obtain⟨nx,vR⟩:=abY wc.heap.size;have O2:Hid (fH (l.map (Np.l5 a f u)) nx R 0 wc):=jq ⟨⟨_,GP.out,rfl⟩,λj y hj=>by omega⟩;have ND:=jq (yg.out.keep BZ.out (by omega));clear k0 k1 RP RQ GP;have k1:=ND.out 1 _ rfl;have gu:=jq vR;have zF:R<nx:=by omega
     have ZC:Z<nx:=by omega
     go_wp2_with fail;clear k1;go_loopw [97] (λi wr=>∃ k:Nat,k<=3/\i = .int .i64 k/\Hid (fH (l.map (Np.l5 a f u)) nx R k wr)/\Hid (dM wr Z [.string a,.slice (some ⟨R,0,none⟩) 3 3])/\Hid (Below w9.heap.size w9 wr)/\nx<=wr.heap.size) (λi _=>3 - (intOf i).toNat)
     case atStart=>exact⟨0,by omega,rfl,O2,HZ,BZ,by omega⟩
     case round=>
      obtain⟨k,hk,rfl,GN,yL,bH,abJ⟩:=hrel;obtain⟨ws,rfl⟩:=acQ wr;have AF:=bH.out.size;by_cases aa:k<3
      ·obtain⟨x,ac⟩:∃ x,l[k]?=some x:=⟨_,aQ (by rw[HL.out];exact aa)⟩;obtain⟨b,o,c',s,dv,sv,hA,bC,_,aP,_,be,aY,e0,e1,e2,e3,e4⟩:=iV (HD.out.later da gm (eb.out.trans (bH.out.acJ))) ac;simp only[Value.slice.injEq] at hA;obtain⟨rfl,-,rfl⟩:=hA;obtain⟨dA,dn,dc,rfl,_,_,_⟩:=ko be;obtain⟨gA,gn,gc,rfl,_,_,_⟩:=ko aY;have mg:=jq be;clear be aY;have pK:=gQ ac;have GA:=jq (dO.out x pK);obtain rfl:s=a:=mY (by rw[aP];exact HN.out x pK);have rO:=jq ac;have cK:=jq aP;clear ac aP pK;have cN:(0:Int)<=(k:Int):=by omega
       have cO:(k:Int)<3:=by omega
       have cg:b<ws.heap.size:=bC;obtain⟨E,hE⟩:=abY ws.heap.size;obtain⟨wa,gg⟩:=abY (ws.alloc (.cells #[.string s,.int .i64 x.set.type,.int .i64 x.set.life,.slice dA dn dc,.slice gA gn gc] 42));have eO:Below ws.heap.size ws wa:=by rw[<-gg];exact (vQ _ _).alloc (bQ _) _
       have wW:wa.heap.size=E+1:=by rw[<-gg,<-hE];simp
       have t8:=jq (ft _ _ hE gg);have j0:=t8.out 0 _ rfl;have j1:=t8.out 1 _ rfl;have j2:=t8.out 2 _ rfl;have j3:=t8.out 3 _ rfl;clear aa;go_upto_region 24 with fail
       obtain⟨wb,lS⟩:=abY (wa.alloc (.cells #[.string s,.int .i64 x.set.type,.int .i64 x.set.life,.slice dA dn dc,.slice none 0 0] 42));rw[lS];have nG:Below wa.heap.size wa wb:=by rw[<-lS];exact (vQ _ _).alloc (bQ _) _
       have lW:wb.heap.size=E+2:=by rw[<-lS];simp[wW]
       have Oe:Hid (wb.heap[E+1]?=some (.cells #[.string s,.int .i64 x.set.type,.int .i64 x.set.life,.slice dA dn dc,.slice none 0 0] 42 (0,0))):=jq (by rw[<-lS,<-wW];exact heap_alloc_new _ _);have ya:=jq (eO.trans (nG.acJ));have NC:=jq (t8.out.keep nG (by omega));clear gg lS eO nG j0 j1 j2 j3 e0 e1 e2 e3 e4;have j3:=NC.out 3 _ rfl;go_wp2_with fail;clear j3;have OKX:=GA.out;simp only[Np.oq,Bool.and_eq_true] at OKX;have Gi:=jq (Np.Fm OKX.2.2.2.2.1).len;clear OKX;refine (Db _ x.set.data (by have:=Gi.out;omega) wb (mg.out.later bq bD ya.out)).mono ?_;rintro e wd ⟨v',rfl,hown,jF⟩;have T0:=jF.size;have zK:=hown.aroundN bD (λ_ _ _ h=>h) T0 (by have:=Gi.out;omega);obtain⟨A',c1,rfl⟩:=zK.form;obtain⟨n1,co⟩:=abY x.set.data.length;rw[co] at zK;have Cf:Hid (wd.heap[E+1]?=some (.cells #[.string s,.int .i64 x.set.type,.int .i64 x.set.life,.slice dA dn dc,.slice none 0 0] 42 (0,0))):=jq ((jF.block (E+1) (by omega)).trans Oe.out);have xU:=jq zK;have Ni:=aaK ya jF;have j3:wd.cell? ⟨E+1,3,none⟩=some (.slice dA dn dc):=jz [_,_,_,_,_] Cf.out 3 _ rfl;have fr:wd.frozen? ⟨E+1,3,none⟩=false:=by simp[World.frozen?,Cf.out]
       have Zg:E+1<wd.heap.size:=by omega
       clear hown jF zK;simp only[co];go_upto_region 25 with fail
       obtain⟨we,tg⟩:=abY (wd.setCell ⟨E+1,3,none⟩ (.slice A' n1 c1));rw[tg];have hze:we.heap.size=wd.heap.size:=by rw[<-tg];simp
       have Of:Hid (we.heap[E+1]?=some (.cells #[.string s,.int .i64 x.set.type,.int .i64 x.set.life,.slice A' n1 c1,.slice none 0 0] 42 (0,0))):=jq (by rw[<-tg];simp[World.setCell,Array.getElem?_modify,Cf.out]);have MJ:Hid (bw bI 3 0 (E+2) we (.slice A' n1 c1) x.set.data):=jq (by
        have:=xU.out.set bq gO bD (p:=⟨E+1,3,none⟩) (by dsimp only;omega) (.slice A' n1 c1)
        rwa [tg,lW] at this)
       have FU:Hid (Below ws.heap.size ws we):=jq (by rw[<-tg];exact Ni.out.setCell (by dsimp only;omega) _);have hown:we.heap[g]?=some (.cells #[.bool true,.bool true,.bool true] 4 (0,0)):=((bH.out.trans (FU.out.acJ)).block g SB).trans ON.out;have c9:we.cell? ⟨g,k,none⟩=some (.bool true):=by
        simp only[World.cell?,hown];rcases (by omega:k=0\/k=1\/k=2) with rfl | rfl | rfl <;> rfl
       clear tg j3 fr hown;go_wp2_with fail;clear c9;go_loopw [117] (λi wr=>∃ kk:Nat,kk<=1/\i = .int .i64 kk/\Hid (Below ws.heap.size ws wr)/\E+2<=wr.heap.size/\(∃ gv:Value,Hid (wr.heap[E+1]?=some (.cells #[.string s,.int .i64 x.set.type,.int .i64 x.set.life,.slice A' n1 c1,gv] 42 (0,0)))/\(kk=0->gv = .slice none 0 0)/\(kk=1->bw cr 6 0 (E+2) wr gv [⟨s.data.toList,1,1,f,u,Np.xy x.set s 1 1 f u⟩]))/\Hid (bw bI 3 0 (E+2) wr (.slice A' n1 c1) x.set.data)) (λi _=>1 - (intOf i).toNat)
       case atStart=>exact⟨0,by omega,rfl,FU,by omega,⟨_,Of,λ_=>rfl,λh=>by omega⟩,MJ⟩
       case round=>
        obtain⟨kk,ZW,rfl,bl,Zh,⟨gv,uf,kK,cM⟩,FB⟩:=hrel;obtain⟨wt,rfl⟩:=acQ wr;have gX:=bl.out.size;have BP:=aaK bH bl.out;have jL:(⟨s.data.toList,x.set.type,x.set.life,x.set.data⟩:Np.DSet)=x.set:=by rw[cK.out]
        by_cases aa:kk<1
        ·obtain rfl:kk=0:=by omega
         obtain rfl:=kK rfl;clear kK cM;obtain⟨wf,AK⟩:=abY (wt.alloc (.cells #[.int .i64 1,.int .i64 1] 161));have dJ:Below wt.heap.size wt wf:=by rw[<-AK];exact (vQ _ _).alloc (bQ _) _
         have hzf:wf.heap.size=wt.heap.size+1:=by rw[<-AK];simp
         have Ce:=NX.out.keep BP.out (by omega);have g0:=Ce 0 _ rfl;have g1:=Ce 1 _ rfl;have DE:=ft _ _ rfl AK;have k0:=DE 0 _ rfl;have k1:=DE 1 _ rfl;have BQ:=aaK BP dJ;have IQ:=yg.out.keep BQ.out (by omega);have x0:=IQ 0 _ rfl;have F8:Hid (wf.heap[E+1]?=some (.cells #[.string s,.int .i64 x.set.type,.int .i64 x.set.life,.slice A' n1 c1,.slice none 0 0] 42 (0,0))):=jq ((dJ.block (E+1) (by omega)).trans uf.out);have hj:=jz [_,_,_,_,_] F8.out;have j0:=hj 0 _ rfl;have j1:=hj 1 _ rfl;have j2:=hj 2 _ rfl;have j3:=hj 3 _ rfl;have FD:=jq (FB.out.keep bq bD dJ);have Nj:=aaK bl dJ;have Zl:G<wt.heap.size:=by omega
         clear dJ Ce DE IQ hj;go_wp2_with fail;refine (Xc s ux.out x.set.type x.set.life _ x.set.data s ux.out 1 1 f u wf ((HR.out.keep (eb.out.trans (BQ.out.acJ))).more (eb.out.trans (BQ.out.acJ)).size) (FD.out.all gO) (by rw[jL];exact GA.out)).mono ?_;rw[jL];rintro e wg ⟨rfl,nH⟩;have hzg:=nH.size;obtain⟨sg,iT⟩:=abY (Np.xy x.set s 1 1 f u);simp only[iT];have Nk:=aaK Nj nH;have Og:=jq ((nH.block (E+1) (by omega)).trans F8.out);have MK:=jq (FD.out.keep bq bD nH);obtain⟨wh,pJ⟩:=abY (wg.alloc (.cells #[.string s,.int .i64 1,.int .i64 1,.int .i64 f,.int .i64 u,.int .u64 sg] 50));have zO:Below wg.heap.size wg wh:=by rw[<-pJ];exact (vQ _ _).alloc (bQ _) _
         have T6:wh.heap.size=wg.heap.size+1:=by rw[<-pJ];simp
         have qF:=ft _ _ rfl pJ;have y0:=qF 0 _ rfl;have y1:=qF 1 _ rfl;have y2:=qF 2 _ rfl;have y3:=qF 3 _ rfl;have y4:=qF 4 _ rfl;have y5:=qF 5 _ rfl;have Nl:=aaK Nk zO;have F9:=jq ((zO.block (E+1) (by omega)).trans Og.out);have ML:=jq (MK.out.keep bq bD zO);have j4:=jz [_,_,_,_,_] F9.out 4 _ rfl;clear zO nH qF x0 k0 k1 g0 g1 AK j0 j1 j2 j3;go_upto_region 32 with fail
         clear pJ;obtain⟨wi,AL⟩:=abY (wh.alloc (.cells #[.string s,.int .i64 1,.int .i64 1,.int .i64 f,.int .i64 u,.int .u64 sg] 50));have zP:Below wh.heap.size wh wi:=by rw[<-AL];exact (vQ _ _).alloc (bQ _) _
         have T7:wi.heap.size=wh.heap.size+1:=by rw[<-AL];simp
         obtain⟨gv,wj,eE,zL,ka⟩:=PM wi 40 (wg.heap.size+1) s ux.out 1 1 f u sg (ft _ _ T6 AL);obtain⟨gA,gc,rfl⟩:=zL.form;simp only[List.length_cons,List.length_nil,Nat.zero_add] at eE zL;have T8:=ka.size;have Nm:=jq (Nl.out.trans ((zP.acJ).trans (ka.acJ)));have qd:=jq ((ka.block (E+1) (by omega)).trans ((zP.block (E+1) (by omega)).trans F9.out));have MM:=jq ((ML.out.keep bq bD zP).keep bq bD ka);have MH:=jq (zL.less (m:=E+2) (by omega));have j4j:=jz [_,_,_,_,_] qd.out 4 _ rfl;have frj:wj.frozen? ⟨E+1,4,none⟩=false:=by simp[World.frozen?,qd.out]
         have Zj:E+1<wh.heap.size:=by omega
         have ll:=jq eE;clear zP ka zL eE;go_wp2_with (at_builtin;refine BH rfl _ _ 40 rfl _ _ _ wj rfl rfl ll.out ?_;clear AL j4 y0 y1 y2 y3 y4 y5);go_roundw
         case rel=>
          refine⟨1,by omega,by go_num,jq (Nm.out.setCell (by dsimp only;omega) _),by simp;omega,⟨.slice gA 1 gc,jq (by simp[World.setCell,Array.getElem?_modify,qd.out]),λh=>by omega,λ_=>?_⟩,jq (MM.out.set bq gO bD (by dsimp only;omega) _)⟩;rw[iT];exact MH.out.set cC jO cZ (by dsimp only;omega) _
         case measure=>simp[intOf] <;> omega
        ·obtain rfl:kk=1:=by omega
         have BN:=jq (cM rfl);clear kK cM;obtain⟨gA,gc,rfl⟩:=BN.out.form;simp only[List.length_cons,List.length_nil,Nat.zero_add] at BN uf;have z1:=(yL.out.keep bl.out (by omega)) 1 _ rfl;have hj:=jz [_,_,_,_,_] uf.out;have j0:=hj 0 _ rfl;have j1:=hj 1 _ rfl;have j2:=hj 2 _ rfl;have j3:=hj 3 _ rfl;have j4:=hj 4 _ rfl;have rU:=jq (GN.out.keep (by omega) bl.out);obtain⟨⟨u0,c0⟩,f0⟩:=rU.out.cell (m:=k * 5) (by omega);obtain⟨⟨u1,c1'⟩,f1⟩:=rU.out.cell (m:=k * 5+1) (by omega);obtain⟨⟨u2,c2⟩,f2⟩:=rU.out.cell (m:=k * 5+2) (by omega);obtain⟨⟨u3,c3⟩,f3⟩:=rU.out.cell (m:=k * 5+3) (by omega);obtain⟨⟨u4,c4⟩,f4⟩:=rU.out.cell (m:=k * 5+4) (by omega);have iO:decide ((k:Int)<3)=true:=adQ;clear hj aa;go_wp2_with fail;go_roundw
         case rel=>
          have Te:=rU.out.next zF (by omega) (Np.l5 s f u x) (by rw[List.getElem?_map,rO.out];rfl) s (.slice A' n1 c1) (.slice gA 1 gc) cK.out ux.out (FB.out.less (by omega)) (BN.out.less (by omega));refine⟨k+1,by omega,by go_num,jq Te,jq (λi v hi=>?_),jq (((((BP.out.setCell uX _).setCell uX _).setCell uX _).setCell uX _).setCell uX _),by simp;omega⟩;have h1:=yL.out.keep bl.out (by omega) i v hi;rw[World.cell?_setCell_far _ _ _ _ uW,World.cell?_setCell_far _ _ _ _ uW,World.cell?_setCell_far _ _ _ _ uW,World.cell?_setCell_far _ _ _ _ uW,World.cell?_setCell_far _ _ _ _ uW];exact h1
         case measure=>simp[intOf] <;> omega
      ·obtain rfl:k=3:=by omega
       have uA:=jq ((bH.out.block (X+1) (by omega)).trans Pm.out);have z0:=yL.out 0 _ rfl;have z1:=yL.out 1 _ rfl;have y0:=jz [_,_] uA.out 0 _ rfl;have y1:=jz [_,_] uA.out 1 _ rfl;have f0:ws.frozen? ⟨X+1,0,none⟩=false:=by simp[World.frozen?,uA.out]
       have f1:ws.frozen? ⟨X+1,1,none⟩=false:=by simp[World.frozen?,uA.out]
       clear aa;go_wp2_with fail;have Pn:((ws.setCell ⟨X+1,0,none⟩ (.string a)).setCell ⟨X+1,1,none⟩ (.slice (some ⟨R,0,none⟩) 3 3)).heap[X+1]?=some (.cells #[.string a,.slice (some ⟨R,0,none⟩) 3 3] 44 (0,0)):=by simp[World.setCell,Array.getElem?_modify,uA.out]
       have sL:=run_loadVar_row (P:=prog) _ (X+1) 44 44 _ (0,0) _ Pn underlying44 rfl (by kernel_rfl)
       try simp only[Exit.inBlock,Exit.then]
       refine bodyPost_ret (v:=.tuple #[.agg #[.string a,.slice (some ⟨R,0,none⟩) 3 3],.int .i64 0]) (by rw[results_cell_tmp rfl];simp[asAddr,sL,Result.andThen]) rfl ?_;refine⟨_,rfl,((GN.out.other (p:=⟨X+1,0,none⟩) (by dsimp only;omega) (by dsimp only;omega) _).other (p:=⟨X+1,1,none⟩) (by dsimp only;omega) (by dsimp only;omega) _).around (by rw[List.length_map];exact HL.out) (by omega) zF,((eb.out.trans (bH.out.acJ)).setCell (by dsimp only;omega) _).setCell (by dsimp only;omega) _⟩
end
section
open Go.RowKit
theorem Lm{w:World}{B:Nat}{e:List Value}{h:Np.Hist}(k:oS w B e h):∃ A1 n1 c1 A2 n2 c2 s ty lf A3 n3 c3 A4 n4 c4 dr st,e = [.slice A1 n1 c1,.slice A2 n2 c2,.string s,.int .i64 ty,.int .i64 lf,.slice A3 n3 c3,.slice A4 n4 c4,.int .i64 dr,.int .i64 st]/\h.hosts.length=n1/\h.copies.length=n2/\h.stop=st/\SlR lA 3 w B (.slice A1 n1 c1) h.hosts/\SlR jx 5 w B (.slice A2 n2 c2) h.copies:=by
 obtain⟨hv,cv,s,dv,cW,rfl,_,_,h3,h4,h5,h6⟩:=k;obtain⟨A1,c1,rfl,_⟩:=ar h3;obtain⟨A2,c2,rfl,_⟩:=ar h4;obtain⟨A3,c3,rfl,_⟩:=ar h5;obtain⟨A4,c4,rfl,_⟩:=ar h6;exact⟨A1,_,c1,A2,_,c2,s,_,_,A3,_,c3,A4,_,c4,_,_,rfl,rfl,rfl,rfl,h3,h4⟩
theorem WO:ef RTx:=λ_ _ _ _ _ _ _ h=>h
theorem Bt{α:Type}{R:agJ α}{sz:Nat}{w:World}{B:Nat}{v:Value}{xs:List α}(h:SlR R sz w B v xs):∃ A n c,v = .slice A n c:=by
 obtain⟨A,c,rfl,_⟩:=ar h;exact⟨_,_,_,rfl⟩
theorem Np.YS{z:Np.Zone}(v:Np.VZone z){x:Np.Signed}(hx:x∈z.sets):Np.UseB x:=by
 obtain⟨_,hv⟩:=Np.rG v;obtain⟨_,_,_,h4,h5,_⟩:=Np.tN (hv x hx);refine⟨by omega,λg r hg=>?_⟩
 have:=((v.form x hx).2 0 g (by rw[hg];rfl)).win
 omega
theorem Np.Wx{h:Np.Hist}(v:Np.VHist h){z:List UInt8}{x:Np.Held}(hx:x∈Np.pub h.copies z):Np.UseB x.signed:=by
 obtain⟨_,_,_,⟨c,hc,_,h1⟩,_⟩:=Np.rp v.full hx;exact Np.YS (v.each c hc).zone h1
theorem Np.Ww{h:Np.Hist}(v:Np.VHist h){z:List UInt8}{x:Np.Held}(hx:x∈Np.pub h.copies z):∀ s∈x.fresh,0<=s.frm/\s.frm<s.til/\s.til<=10000000:=λs hs=>by
 obtain⟨_,_,m3,_,m5⟩:=Np.rp v.full hx;have hf:=m3.full s hs;obtain⟨c,hc,_,_,k1,_⟩:=(m5 s.frm).1 ⟨s,hs,Int.le_refl _,hf⟩;obtain⟨d,hd,_,_,_,k2⟩:=(m5 (s.til - 1)).1 ⟨s,hs,by omega,by omega⟩;have e1:=(v.each c hc).times;have e2:=(v.each d hd).times;have e3:=v.stop;omega
theorem Np.Wo{h:Np.Hist}(v:Np.VHist h)(u:Np.Use h){x:Np.Held}(hx:x∈Np.pubAll h):Np.UseB x.signed/\(∀ s∈x.fresh,0<=s.frm/\s.frm<s.til/\s.til<=10000000)/\x.fresh.length<=20000:=by
 obtain⟨z,_,hz⟩:=Np.AZ.1 hx;refine⟨Np.Wx v hz,Np.Ww v hz,?_⟩;have hp:=u.pairs z;unfold Np.pub Np.pg at hz;obtain⟨s,_,rfl⟩:=List.mem_map.1 hz;exact yQ (rq _) (yQ (BB _ _) (by omega))
theorem Np.Use.pubTo{h:Np.Hist}(u:Np.Use h)(k:Nat):(Np.pubTo h k).length<=2100:=Np.Ld (λc hc=>(u.each c hc).1) u.copies k
theorem Np.Use.pubAll{h:Np.Hist}(u:Np.Use h):(Np.pubAll h).length<=2100:=Np.Wn (λc hc=>(u.each c hc).1) u.copies
theorem cAll(e:List Value)(h:Np.Hist)(w:World)(hV:i6 w.heap.size w)(k:oG w e h) :
 Calls prog 19 #[.agg e.toArray] w λe w'=>∃ A n c,e = .returned (.tuple #[.slice A n c,.int .i64 (Np.mo h).1])/\(Np.mo h).2.length=n/\bw fU 8 0 w.heap.size w' (.slice A n c) (Np.mo h).2/\Below w.heap.size w w':=by
 obtain⟨A1,n1,c1,A2,n2,c2,s,ty,lf,A3,n3,c3,A4,n4,c4,dr,st,rfl,-,-,ak,SG,Sg⟩:=Lm k.rh;have ub:Hid (h.drift=dr):=jq (by
  obtain⟨hv,cv,s',dv,cW,he,_⟩:=k.rh;simp only[List.cons.injEq,Value.int.injEq,true_and,and_true] at he;exact he.2.2.2.2.2.2.2.1.symm)
 have Y2:=jq hV;have YZ:=jq k;obtain⟨X,hX⟩:=abY w.heap.size;obtain⟨w1,am⟩:=abY (w.alloc (.cells #[.slice A1 n1 c1,.slice A2 n2 c2,.string s,.int .i64 ty,.int .i64 lf,.slice A3 n3 c3,.slice A4 n4 c4,.int .i64 dr,.int .i64 st] 29));have aK:w1.heap.size=X+1:=by rw[<-am,<-hX];simp
 have hb:Below w.heap.size w w1:=by rw[<-am];exact (vQ _ _).alloc (bQ _) _
 have bp:=jq hb;have qp:=jq (hV.next hb);have ug:=jq (k.keep hb);have cT:=jq (ft _ _ hX am);clear hb hV k ak SG Sg;have k0:=cT.out 0 _ rfl;have k1:=cT.out 1 _ rfl;have k2:=cT.out 2 _ rfl;have k3:=cT.out 3 _ rfl;have k4:=cT.out 4 _ rfl;have k5:=cT.out 5 _ rfl;have k6:=cT.out 6 _ rfl;have k7:=cT.out 7 _ rfl;have k8:=cT.out 8 _ rfl;obtain⟨ax,DV⟩:=abY (Np.mo h);rw[DV];have FC:=jq DV;clear DV;go_enter func19,ntmps19;go_wp2_with fail;clear am;refine (cZon _ h w1 qp.out ug.out).mono ?_;rintro e w2 ⟨Az,nz,cz,rfl,JM,iq,hb⟩;have ai:=jq (bp.out.trans (hb.mono bp.out.size));have nw:=jq (qp.out.next hb);have oE:=jq (ug.out.keep hb);have de:=jq (cT.out.keep hb (by omega));have aC:=hb.size;have mj:=jq (iq.all WO);have Gl:=jq JM;clear hb iq JM k0 k1 k2 k3 k4 k5 k6 k7 k8;by_cases ig:Np.VHist h
 case neg=>
  rw[Np.Mu ig];have HN:=jq ig;clear ig;go_wp2_with fail;refine bodyPost_ret (v:=.tuple #[.slice none 0 0,.int .i64 1]) (by simp[results,results19,go_sem]) rfl ?_;rw[<-FC.out,Np.C2 HN.out];exact⟨_,_,_,rfl,rfl,bw.nil _ _ _ _,ai.out⟩
 case pos=>
  have CN:=jq ig;rw[Np.Mv ig] at mj Gl |-;have MI:=jq (FC.out.symm.trans (Np.yV ig));have GO:Hid (SlR RTx 1 w2 w2.heap.size (.slice Az nz cz) (Np.apexes h.copies)):=jq mj.out;have Cl:Hid ((Np.apexes h.copies).length=nz):=jq Gl.out;have rL:Hid (0<=dr/\dr<=1000):=jq (by rw[<-ub.out];exact ig.drift);clear ig;obtain⟨B,hB⟩:=abY w2.heap.size;have RR:X<B:=by omega
  obtain⟨i0,pm,bd,EK,EL⟩:=info_parts Tryz.infoHeldA;have Sh:nz<=cz:=by
   obtain⟨A',c',h1,h2,_⟩:=ar GO.out;simp only[Value.slice.injEq] at h1;omega
  have kS:nz<=1000:=by
   have h1:=Cl.out;have h2:=Hh h.copies;have h3:=oE.out.use.copies;omega
  go_wp2_with fail;go_loopw [6,23] (λvo i wr=>∃ (k m:Nat) (A:Option Addr) (c:Nat) (M:Nat->Prop),k<=nz/\i = .int .i64 k/\vo = .slice A m c/\(Np.pubTo h k).length=m/\Hid ((∀ j,j<X->M j)/\∀ j,M j->(j<X\/B<=j)/\j<wr.heap.size)/\Hid (bh fU 8 57 B M wr (.slice A m c) (Np.pubTo h k))/\Hid (Below B w2 wr)) (λ_ i _=>nz - (intOf i).toNat)
  case atStart=>exact⟨0,0,none,0,λj=>j<X,jQ _,rfl,rfl,rfl,jq ⟨λ_ h=>h,λj h=>⟨.inl h,by omega⟩⟩,jq (bh.nil _),jq (vQ _ _)⟩
  case round=>
   obtain⟨k,m,A,c,M,hk,rfl,rfl,hm,HM,HO,HB⟩:=hrel;have ag:=HB.out.size;have qV:m<=2100:=by rw[<-hm];exact oE.out.use.pubTo k
   have cJ:=jq hm;clear hm;by_cases aa:k<nz
   ·obtain⟨z,ac⟩:∃ z,(Np.apexes h.copies)[k]?=some z:=⟨_,aQ (by have:=Cl.out;omega)⟩;have d9:=GO.out.later Bq Lr (show Below w2.heap.size w2 wr by rw[hB];exact HB.out);obtain⟨b,o,zs,rfl,bC,ri,jp,e0⟩:=Fd d9 ac;have Pq:=jq ri;have G5:=jq (Np.xg.1 (gQ ac));have Cu:=jq (Np.Wq ac);have Pd:=jq (nw.out.next (show Below w2.heap.size w2 wr by rw[hB];exact HB.out));have Oj:=jq (oE.out.keep (show Below w2.heap.size w2 wr by rw[hB];exact HB.out));have eY:=jq (de.out.keep HB.out (by omega));have k0:=eY.out 0 _ rfl;have k1:=eY.out 1 _ rfl;have k2:=eY.out 2 _ rfl;have k3:=eY.out 3 _ rfl;have k4:=eY.out 4 _ rfl;have k5:=eY.out 5 _ rfl;have k6:=eY.out 6 _ rfl;have k7:=eY.out 7 _ rfl;have k8:=eY.out 8 _ rfl;have cN:(0:Int)<=(k:Int):=by omega
    have cO:(k:Int)<(nz:Int):=by omega
    clear d9 ac ri;go_wp2_with fail;refine (cPub _ h zs jp wr Pd.out Oj.out).mono ?_;rw[Pq.out];rintro e w3 ⟨Ap,np,cp,rfl,vN,AD,hb⟩;have aJ:Np.mU h z=(0,Np.pub h.copies z):=Np.Le ⟨CN.out,by
     obtain⟨c',hc',rfl⟩:=G5.out;exact (Np.rG (CN.out.each c' hc').zone).1⟩ G5.out
    rw[aJ] at vN AD |-;dsimp only at vN AD;have lx:=jq vN;have nu:Hid (qx fU 8 M w3 Ap (Np.pub h.copies z)):=jq (WL (AD M (λj hj=>⟨jQ _,(HM.out.2 j hj).2⟩)) (by decide));have fp:=jq (HO.out.keep pO l3 mW hb);have ay:=aaK HB hb;have gh:=hb.size;have hmp:m+np<=2100:=by
     have h1:=oE.out.use.pubTo (k+1);rw[Cu.out,List.length_append,cJ.out,vN] at h1;exact h1
    have OM:=jq (HO.out.lt);clear hb vN AD aJ k0 k1 k2 k3 k4 k5 k6 k7 k8 e0;go_wp2_with (at_builtin;refine YA (R:=fU) (M:=M) w3 rfl _ _ 52 rfl B 57 i0 (.agg #[.string ⟨#[]⟩,.string ⟨#[]⟩,.int .i64 0,.int .i64 0,.slice none 0 0,.slice none 0 0,.slice none 0 0,.slice none 0 0]) 144 underlying52 pm bd EK EL rfl (by decide) (.slice A m c) (Np.pubTo h k) rfl fp.out Ap cp (Np.pub h.copies z) (by rw[lx.out];rfl) nu.out Ll (by rw[cJ.out,lx.out];unfold maxLen;omega) (by rw[cJ.out,lx.out];omega) (by omega) pO l3 mW ?_;intro v8 w8 eH bX jE;obtain⟨A8,c8,rfl⟩:=bh.formN eH (n:=m+np) (by rw[List.length_append,cJ.out,lx.out]);have H8:=jq (And.intro eH (And.intro bX jE));clear eH bX jE);have pk:decide ((20000:Int)<((m+np:Nat):Int))=false:=acK;have rg:=H8.out.2.1.size;go_wp2_with fail;go_roundw
    case rel=>
     refine⟨k+1,m+np,A8,c8,_,by omega,by go_num,rfl,by rw[Cu.out,List.length_append,cJ.out,lx.out],jq ⟨λj hj=>Or.inl (HM.out.1 j hj),λj hj=>?_⟩,jq (by rw[Cu.out];exact H8.out.1),jq (ay.out.trans ((vQ _ _).grown H8.out.2.1 (by omega) (λg hg=>(OM.out g hg).1)))⟩;rcases hj with hj | hj
     ·have:=HM.out.2 j hj
      omega
     ·have:=H8.out.1.lt j hj
      omega
    case measure=>simp[intOf] <;> omega
   ·have OR:Hid (Np.pubTo h k=Np.pubAll h):=jq (Np.Lc (by have:=Cl.out;omega));rw[OR.out] at HO cJ;go_wp2_with fail;clear aa hk;obtain⟨w4,rfl⟩:=acQ wr;go_loopw [45] (λi wr=>∃ (k:Nat),k<=m/\i = .int .i64 k/\w4.heap.size<=wr.heap.size/\Hid (bh fU 8 57 B M wr (.slice A m c) (Np.kD dr (Np.pubAll h) k))/\Hid (Below B w2 wr)) (λi _=>m - (intOf i).toNat)
    case atStart=>exact⟨0,jQ _,rfl,bQ _,HO,HB⟩
    case round=>
     obtain⟨k,hk,rfl,sZ,bV,HC⟩:=hrel;have jm:=HC.out.size;have lw:Hid ((Np.kD dr (Np.pubAll h) k).length=m):=jq (by rw[Np.PA];exact cJ.out);by_cases aa:k<m
     ·obtain⟨x,ac⟩:∃ x,(Np.pubAll h)[k]?=some x:=⟨_,aQ (by rw[cJ.out];exact aa)⟩;obtain⟨g,cap,hA,Dz,Ea,Zq⟩:=bV.out.formSome lw.out (by omega);simp only[Value.slice.injEq,true_and] at hA;obtain⟨rfl,rfl⟩:=hA;obtain⟨b,o,zs,sn,dv,sv,fv,pv,di,bC,ri,aP,be,aY,qM,sX,e0,e1,e2,e3,e4,e5,e6,e7⟩:=Su (bV.out.slr l3 (by rw[lw.out];omega)) (Np.Hf ac);simp only[Option.some.injEq,Addr.mk.injEq,and_true] at di;obtain⟨rfl,rfl⟩:=di;obtain⟨dA,dn,dc,rfl⟩:=Bt be;obtain⟨gA,gn,gc,rfl⟩:=Bt aY;obtain⟨fA,fn,fc,rfl⟩:=Bt qM;obtain⟨pA,pn,pc,rfl⟩:=Bt sX;have rV:=jq aY;have Cb:=jq qM;have yA:=jq (Np.Wo CN.out oE.out.use (gQ ac));have HAT:=jq (Np.Hf (d:=dr) ac);have gu:=jq (Np.PB (d:=dr) ac);obtain⟨w5,aB⟩:=abY (wr.alloc (.cells #[.string zs,.string sn,.int .i64 x.signed.set.type,.int .i64 x.signed.set.life,.slice dA dn dc,.slice gA gn gc,.slice fA fn fc,.slice pA pn pc] 57));have aA:Below wr.heap.size wr w5:=by rw[<-aB];exact (vQ _ _).alloc (bQ _) _
      have jo:wr.heap.size<w5.heap.size:=by rw[<-aB];simp
      have mh:=jq (ft _ _ rfl aB);have db:=jq aA;have dN:=aaK HC aA;have k7:=(de.out.keep dN.out (by omega)) 7 _ rfl;have cN:(0:Int)<=(k:Int):=by omega
      have cO:(k:Int)<(m:Int):=by omega
      have E7:Hid (wr.cell? ⟨g,k * 8+7,none⟩=some (.slice pA pn pc)):=jq (by simpa using e7);simp only[Nat.zero_add] at e0 e1 e2 e3 e4 e5 e6 e7;have d0:=mh.out 0 _ rfl;have d1:=mh.out 1 _ rfl;have d2:=mh.out 2 _ rfl;have d3:=mh.out 3 _ rfl;have d4:=mh.out 4 _ rfl;have d5:=mh.out 5 _ rfl;have d6:=mh.out 6 _ rfl;have d7:=mh.out 7 _ rfl;clear ac ri aP be aY qM sX aA;go_wp2_with fail;clear aB e0 e1 e2 e3 e4 e5 e6 e7 d0 d1 d2 d3 d4 d5 d6 d7;refine (XX x yA.out.1 dr rL.out yA.out.2.1 yA.out.2.2 zs sn dA gA fA pA dn dc gn gc fn fc pn pc w5 (rV.out.later cC cZ db.out) (Cb.out.later cI iw db.out)).mono ?_;rintro e w6 ⟨v6,rfl,mD,hb⟩;obtain⟨A6,c6,rfl⟩:=mD.form;obtain⟨n6,qW⟩:=abY ((Np.fo x dr).length);rw[qW] at mD |-;have oL:=jq mD;have kj:=hb.size;have iA:=aaK db hb;have GB:=jq (bV.out.keep pO l3 mW iA.out);have q7:=aaJ iA.out E7.out;have z7:=GB.out.frozenAt lw.out (k * 8+7);have Gu:=jq qW;clear mD hb k7 qW;go_wp2_with fail;go_roundw
      case rel=>
       refine⟨k+1,by omega,by go_num,by simp[World.setCell];omega,jq ?_,jq ((HC.out.trans (iA.out.acJ)).setCell (by dsimp only;omega) _)⟩;rw[<-gu.out];have Tx:SlR cm 2 (aR w6 M) w6.heap.size (.slice A6 n6 c6) (Np.fo x dr):=(oL.out.around (n:=w5.heap.size) (bQ _) (by rw[Gu.out];have:=rq (x.fresh.map (Np.ja x.signed dr));have h2:=Gu.out;unfold Np.fo at h2;rw[List.length_map] at this;have:=yA.out.2.2;omega)) M (λj hj=>⟨jQ _,by have:=(HM.out.2 j hj).2;omega⟩)
       have:=bh.stored pO l3 mW GB.out lw.out HAT.out (c:=7) (by decide) (.slice A6 n6 c6) (y:=⟨x.zone,x.signed,x.fresh,Np.fo x dr⟩) (λr _ hr=>WG hr Tx)
       simpa using this
      case measure=>simp[intOf] <;> omega
     ·have ca:Hid (Np.kD dr (Np.pubAll h) k=Np.iI h):=jq (by rw[<-ub.out];exact Np.Pz (by rw[cJ.out];omega));rw[ca.out] at bV lw;have HE:Hid (Below w.heap.size w wr):=aaK ai HC.out;go_wp2_with fail;refine bodyPost_ret (v:=.tuple #[.slice A m c,.int .i64 0]) (by simp[results,results19,go_sem]) rfl ?_;rw[MI.out];refine⟨_,_,_,rfl,lw.out,λM' hM'=>?_,HE.out⟩;exact bV.out.slr_sans l3 mW (λj hj=>⟨HM.out.1 j (by have:=(hM' j hj).2;omega),λe=>by have:=(bV.out.lt j e).1;have:=(hM' j hj).2;omega⟩) (by rw[lw.out];omega)


end
end Go.Proofs.YtfnopgdcaanaiaaGreatDoor
