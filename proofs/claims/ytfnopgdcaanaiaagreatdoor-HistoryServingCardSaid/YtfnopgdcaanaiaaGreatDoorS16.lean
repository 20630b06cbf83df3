/- No condition. -/
import Derived.Stop.LaidErr
import Derived.Test.YtfnopgdcaanaiaaGreatDoorS12
import Derived.Test.YtfnopgdcaanaiaaGreatDoorS13
import Derived.Test.YtfnopgdcaanaiaaGreatDoorS15
set_option linter.all false
set_option maxRecDepth 100000
set_option maxHeartbeats 8000000
namespace Go.Proofs.YtfnopgdcaanaiaaGreatDoor
open Go.Proofs.Tryz
section
open Go.RowKit Go.Shelf Go.MapKept
attribute [local go_sem] Oper.semAt_some CV.cells
def zD(z:ByteArray):Value->Value
 | .agg xs=>.agg (#[.string z]++xs ++ #[.slice none 0 0,.slice none 0 0])
 | _=>undef
def C1:Value->Value
 | .tuple xs=>xs.getD 0 undef
 | _=>undef
def FO:Value->Value
 | .tuple xs=>xs.getD 1 undef
 | _=>undef
def f8(g n cap q:Nat)(fA:Option Addr)(fn fc cb:Nat)(xf xt:Int)(e12:Value)(e13:Value)(i:Nat):Value:=[.slice (some ⟨g,0,none⟩) n cap,.int .i64 (q:Nat),.slice (some ⟨g,0,none⟩) n cap,.int .i64 (q:Nat),.pointer (some ⟨g,q * 8,none⟩),.pointer (some ⟨g,q * 8+6,none⟩),.slice fA fn fc,.pointer (some ⟨cb,1,none⟩),.int .i64 xf,.pointer (some ⟨cb,2,none⟩),.int .i64 xt,.agg #[.int .i64 xf,.int .i64 xt],e12,e13,.pointer (some ⟨g,q * 8,none⟩),.pointer (some ⟨g,q * 8+6,none⟩),undef].getD i undef
def jo(i:Nat):Nat:=[62,63,64,65,66,67,68,69,70,71,72,73,74,75,76,77,0].getD i 0
def aZQ:List Nat:=[0,1,2,3,4,5,6,7,8,9,10,11,14,15,12,13].map jo
theorem oO:∀ i∈[0,1,2,3,4,5,6,7,8,9,10,11,14,15,12,13],jo i<101/\jo i∈aZQ:=by decide
theorem ri:∀ i∈[0,1,2,3,4,5,6,7,8,9,10,11,14,15,12,13],∀ j∈[0,1,2,3,4,5,6,7,8,9,10,11,14,15,12,13],j≠i->jo i≠jo j:=by decide
def kC(oA:Option Addr)(m oc:Nat)(z ss:ByteArray)(sty slf:Int)(dA:Option Addr)(dn dc:Nat)(gA:Option Addr)(gn gc:Nat)(e3:Value)(e5:Value)(e6:Value)(i:Nat):Value:=[.slice oA m oc,.string z,.agg #[.string ss,.int .i64 sty,.int .i64 slf,.slice dA dn dc,.slice gA gn gc],e3,zD z e3,e5,e6,undef].getD i undef
def mK(i:Nat):Nat:=[52,53,54,55,56,57,58,0].getD i 0
def aYX:List Nat:=[0,1,2,4,3,5,6].map mK
theorem uv:∀ i∈[0,1,2,4,3,5,6],mK i<101/\mK i∈aYX:=by decide
theorem xp:∀ i∈[0,1,2,4,3,5,6],∀ j∈[0,1,2,4,3,5,6],j≠i->mK i≠mK j:=by decide
def oR(g n cap q:Nat)(fA:Option Addr)(fn fc:Nat)(e7:Value)(i:Nat):Value:=[.slice (some ⟨g,0,none⟩) n cap,.int .i64 (q:Nat),.slice (some ⟨g,0,none⟩) n cap,.int .i64 (q:Nat),.pointer (some ⟨g,q * 8,none⟩),.pointer (some ⟨g,q * 8+6,none⟩),.slice fA fn fc,e7,e7,C1 e7,FO e7,.pointer (some ⟨g,q * 8,none⟩),.pointer (some ⟨g,q * 8+6,none⟩),undef].getD i undef
def oP(i:Nat):Nat:=[87,88,89,90,91,92,93,94,86,95,96,97,98,0].getD i 0
def aZZ:List Nat:=[0,1,2,3,4,5,6,8,9,10,11,12,7].map oP
theorem FM:∀ i∈[0,1,2,3,4,5,6,8,9,10,11,12,7],oP i<101/\oP i∈aZZ:=by decide
theorem FN:∀ i∈[0,1,2,3,4,5,6,8,9,10,11,12,7],∀ j∈[0,1,2,3,4,5,6,8,9,10,11,12,7],j≠i->oP i≠oP j:=by decide
def psP(PP:List (Np.Span×Np.Signed))(sp:Np.Span)(sets:List Np.Signed)(j:Nat):List (Np.Span×Np.Signed):=PP++(sets.take j).map λs=>(sp,s)
theorem aYK(PP:List (Np.Span×Np.Signed))(sp:Np.Span)(sets:List Np.Signed):psP PP sp sets 0=PP:=by simp[psP]
theorem aXY{PP:List (Np.Span×Np.Signed)}{sp:Np.Span}{sets:List Np.Signed}{j:Nat}(h:sets.length=j):psP PP sp sets j=PP++sets.map λs=>(sp,s):=by unfold psP;rw[kQ (by omega)]
theorem aYJ{PP:List (Np.Span×Np.Signed)}{sp:Np.Span}{sets:List Np.Signed}{j:Nat}{x:Np.Signed}(h:sets[j]?=some x):psP PP sp sets (j+1)=psP PP sp sets j ++ [(sp,x)]:=by
 obtain⟨hl,he⟩:=cQ.1 h;unfold psP;rw[fQ hl,he,List.map_append,List.append_assoc];rfl
theorem aYZ{PP:List (Np.Span×Np.Signed)}{sp:Np.Span}{sets:List Np.Signed}{j:Nat}{p:Np.Span×Np.Signed}(h:p∈psP PP sp sets j):p∈PP++sets.map λs=>(sp,s):=by
 rcases List.mem_append.1 h with h | h
 ·exact List.mem_append.2 (.inl h)
 ·obtain⟨s,hs,rfl⟩:=List.mem_map.1 h;exact List.mem_append.2 (.inr (List.mem_map.2 ⟨s,List.mem_of_mem_take hs,rfl⟩))
theorem aYQ(PP:List (Np.Span×Np.Signed))(sp:Np.Span)(sets:List Np.Signed)(j:Nat):(psP PP sp sets j).length<=(PP++sets.map λs=>(sp,s)).length:=by
 unfold psP;simp only[List.length_append,List.length_map,List.length_take];omega
theorem aXX{a b:List (CV×Np.Copy)}(h:a <+: b):∃ c,((b.map (·.2)).flatMap Np.p9)=((a.map (·.2)).flatMap Np.p9)++c:=by
 obtain⟨c,rfl⟩:=h;exact⟨(c.map (·.2)).flatMap Np.p9,by rw[List.map_append,List.flatMap_append]⟩
def D8(w6:World)(bo bt bm:Nat)(zn:ByteArray)(pre:List (CV×Np.Copy))(S:Nat->Prop)(W:World):Prop:=
 ∃ (xs:List PT) (ov:Value) (M:Nat->Prop),S bo/\S bt/\S bm/\(∀ k,tx xs ov k->S k)/\(∀ k,S k->k=bo\/k=bt\/k=bm\/w6.heap.size<=k)/\(∀ k,¬ S k->M k)/\M bo/\M bt/\M bm/\
   Boxed W bo 52 ov/\Boxed W bt 4 (.bool (!pre.isEmpty))/\dJ bm (Np.nN (xs.map (·.1))) W/\PubR w6.heap.size M zn xs ov W/\xs.map (λx=>(x.1,x.2.1))=Np.en ((pre.map (·.2)).flatMap Np.p9)/\RdStep (λk=>k=bo\/k=bt\/k=bm) w6 W
theorem S6(w6:World)(bo bt bm:Nat)(zn:ByteArray):fO w6.heap.size (D8 w6 bo bt bm zn):=by
 rintro pre S W W' ⟨xs,ov,M,h1,h2,h3,h4,h5,h6,m1,m2,m3,h7,h8,h9,ou,tI,tJ⟩ ax;refine⟨xs,ov,M,h1,h2,h3,h4,h5,h6,m1,m2,m3,iK h7 ax h1,iK h8 ax h2,h9.stays (ax.keep bm h9.lt (.inr h3)),?_,tI,⟨ax.os.trans tJ.os,ax.tape.trans tJ.tape,ax.output.trans tJ.output,yQ tJ.size ax.size,λk hk Kh=>(ax.keep k (lQ hk tJ.size) (.inl hk)).trans (tJ.keep k hk Kh)⟩⟩;exact ou.leaves ⟨ax.os,ax.tape,ax.output,ax.size,λi hi hm=>⟨hm,ax.keep i hi (.inr (Classical.byContradiction λhs=>hm (h6 i hs)))⟩⟩ (λg hg=>⟨ax.keep g (ou.lt hg).2.1 (.inr (h4 g hg)),(ou.lt hg).2.2⟩)
theorem aZJ{w6:World}{bo bt bm:Nat}{zn:ByteArray}{pre:List (CV×Np.Copy)}{S:Nat->Prop}{W W':World}(h:D8 w6 bo bt bm zn pre S W)(hb:Below W.heap.size W W'):D8 w6 bo bt bm zn pre S W':=by
 obtain⟨xs,ov,M,h1,h2,h3,h4,h5,h6,m1,m2,m3,h7,h8,h9,ou,tI,tJ⟩:=h;exact⟨xs,ov,M,h1,h2,h3,h4,h5,h6,m1,m2,m3,ej h7 hb h7.lt,ej h8 hb h8.lt,h9.keep hb h9.lt,ou.keep hb,tI,tJ.then_below hb⟩
theorem OV{w:World}{B:Nat}{L:List (CV×Np.Copy)}(h:∀ x∈L,CVOf w B x.1 x.2)(z:List UInt8):((L.filter λx=>x.1.str.data.toList == z).map (·.2)).flatMap Np.p9=Np.gx (L.map (·.2)) z:=by
 unfold Np.gx Np.tG;congr 1
 induction L with
 | nil=>rfl
 | cons x L ih=>
  have hx:=h x (by simp);have ih:=ih (λy hy=>h y (mQ _ hy));rw[List.map_cons,List.filter_cons,List.filter_cons,hx.apex];split
  ·rw[List.map_cons,ih]
  ·exact ih
theorem aZY(e:List Value)(h:Np.Hist)(hf:Np.tc h)(Rq:Np.pr h)(z:ByteArray)(hz:z.size<=140737488355328)(hp:(Np.gx h.copies z.data.toList).length<=5000)(w:World)(hR:gq w w.heap.size)(hP:ij w)(hh:ik w w.heap.size e h) :
 Calls prog 61 #[.agg e.toArray,.string z] w λe w'=>((¬ Np.qD h z.data.toList/\e = .returned (.tuple #[.slice none 0 0,.int .i64 1]))\/(Np.qD h z.data.toList/\((¬ Np.yt h z.data.toList/\e = .returned (.tuple #[.slice none 0 0,.int .i64 4]))\/(Np.yt h z.data.toList/\∃ v',e = .returned (.tuple #[v',.int .i64 0])/\dx oh 8 0 w.heap.size w' v' (Np.pub h.copies z.data.toList)))))/\Below w.heap.size w w':=by
 have ph:=jq hh;obtain⟨hv,cv,s,dv,cU,rfl,bU,fH,h3,h4,h5,h6⟩:=hh;obtain⟨ty,cw⟩:=afZ h.anchor.type;obtain⟨life,lp⟩:=afZ h.anchor.life;obtain⟨drift,tU⟩:=afZ h.drift;obtain⟨stop,jl⟩:=afZ h.stop;have H3:=jq h3;have H4:=jq h4;have H5:=jq h5;have H6:=jq h6;have HS:=jq (And.intro bU fH);have dZ:=jq hf;have cV:=jq jl;have gm:=jq (And.intro cw lp);obtain⟨A1,c1,rfl,_,_⟩:=ak h3;obtain⟨A2,c2,rfl,_,_⟩:=ak h4;obtain⟨A3,c3,rfl,_,_⟩:=ak h5;obtain⟨A4,c4,rfl,_,_⟩:=ak h6;clear h3 h4 h5 h6 bU fH hf;obtain⟨n1,bE⟩:=afZ h.hosts.length;obtain⟨n2,bS⟩:=afZ h.copies.length;obtain⟨n3,cR⟩:=afZ h.anchor.data.length;obtain⟨n4,cX⟩:=afZ h.hints.length;rw[bE] at H3;rw[bS] at H4;rw[cR] at H5;rw[cX] at H6;rw[bE,bS,cR,cX,cw,lp,tU,jl] at ph |-;have lK:=jq bS;clear bE bS cR cX cw lp tU jl;obtain⟨r,hr⟩:=afZ (Np.yes (Np.VHist h));have lN:=jq hr;clear hr;obtain⟨X,hX⟩:=afZ w.heap.size;obtain⟨W1,aB⟩:=afZ ((((w.alloc (.cells #[.slice A1 n1 c1,.slice A2 n2 c2,.string s,.int .i64 ty,.int .i64 life,.slice A3 n3 c3,.slice A4 n4 c4,.int .i64 drift,.int .i64 stop] 29)).alloc (.cells #[.string z] 9)).alloc (.cells #[.slice none 0 0] 52)).alloc (.cells #[.int .i64 0] 37));have aM:Below w.heap.size w W1:=by rw[<-aB];exact (((blAl).alloc (by simp<;>omega) _).alloc (by simp<;>omega) _).alloc (by simp<;>omega) _
 have jS:W1.heap.size=X+4:=by rw[<-aB,<-hX];simp
 obtain⟨k0,k1,k2,k3,k4,k5,k6,k7,k8⟩:=cRow9 W1 X (.slice A1 n1 c1) (.slice A2 n2 c2) (.string s) (.int .i64 ty) (.int .i64 life) (.slice A3 n3 c3) (.slice A4 n4 c4) (.int .i64 drift) (.int .i64 stop) (by rw[<-aB,<-hX];simp[go_sem]);have kz:W1.cell? ⟨X+1,0,none⟩=some (.string z):=by rw[<-aB,<-hX];simp[go_sem]
 have HO:Hid (Boxed W1 (X+1+1) 52 (.slice none 0 0)):=jq (by
  rw[<-aB,<-hX]
  have:=(Boxed.new ((w.alloc (.cells #[.slice A1 n1 c1,.slice A2 n2 c2,.string s,.int .i64 ty,.int .i64 life,.slice A3 n3 c3,.slice A4 n4 c4,.int .i64 drift,.int .i64 stop] 29)).alloc (.cells #[.string z] 9)) 52 (.slice none 0 0)).alloc (.cells #[.int .i64 0] 37)
  simpa using this)
 have HE:Hid (Boxed W1 (X+1+1+1) 37 (.int .i64 0)):=jq (by
  rw[<-aB,<-hX]
  have:=Boxed.new (((w.alloc (.cells #[.slice A1 n1 c1,.slice A2 n2 c2,.string s,.int .i64 ty,.int .i64 life,.slice A3 n3 c3,.slice A4 n4 c4,.int .i64 drift,.int .i64 stop] 29)).alloc (.cells #[.string z] 9)).alloc (.cells #[.slice none 0 0] 52)) 37 (.int .i64 0)
  simpa using this)
 have ef:=jq hR;have qA:=jq hP;have It:=jq Rq;have gl:=jq hp;have An:Hid (1<w.heap.size):=jq hP.lt;rw[hX] at aM H3 H4 H5 H6 ph ef An |-;have aS:=jq aM;clear aM hR hP Rq hp;refine (callsIn_wide (n:=0)).1 ?_;refine callsIn_of_wp_marks func61 rfl trivial ?_ rfl;simp only[ntmps61,List.size_toArray,List.length_cons,List.length_nil,Nat.reduceAdd,Nat.reduceSub,Array.replicate_succ,Array.replicate_zero,List.push_toArray,List.append_toArray,List.nil_append,List.cons_append];gi_wp2_with fail;refine⟨trivial,rfl,?_⟩;refine (callsIn_wide.2 (EZ _ h dZ.out W1 ((ef.out.keep aS.out).more (by omega)) (sV _ _ _ _ _ (sU _ _ _ _ _ ph.out aS.out) (by omega)))).mono ?_;rw[lN.out];rintro e w2 ⟨rfl,aa⟩;have aO:=aa.size;have m0:=aeK aa k0;have m1:=aeK aa k1;have m2:=aeK aa k2;have m3:=aeK aa k3;have m4:=aeK aa k4;have m5:=aeK aa k5;have m6:=aeK aa k6;have m7:=aeK aa k7;have m8:=aeK aa k8;have mz:=aeK aa kz;have bH:=jq (ahQ HO.out aa);have uP:=jq (ahQ HE.out aa);have ah:=aeX aS aa;clear aa aB hX k0 k1 k2 k3 k4 k5 k6 k7 k8 kz
 cases r with
 | false=>
  have HN:Hid (¬ Np.VHist h):=jq (λh=>by have:=Np.bV h;rw[lN.out] at this;cases this);have y0:=bH.out.cell;have y1:=bH.out.frozen;have z0:=uP.out.cell;have z1:=uP.out.frozen;gi_wp2_with fail;refine⟨trivial,?_⟩;gi_wp2_with fail;obtain⟨W,hW⟩:=afZ ((w2.setCell ⟨X+1+1,0,none⟩ (.slice none 0 0)).setCell ⟨X+1+1+1,0,none⟩ (.int .i64 1));have rm:Hid (Below X w W):=jq (by rw[<-hW];exact ((ah.out.blSe (p:=⟨X+1+1,0,none⟩) _).blSe (p:=⟨X+1+1+1,0,none⟩) _));have e0:W.cell? ⟨X+1+1,0,none⟩=some (.slice none 0 0):=by rw[<-hW];simp[go_sem,y0]
  have e1:W.cell? ⟨X+1+1+1,0,none⟩=some (.int .i64 1):=by rw[<-hW];simp[go_sem,z0]
  rw[hW];exact nf (v:=.tuple #[.slice none 0 0,.int .i64 1]) (by simp[results,results61,go_sem,e0,e1]) ⟨.inl ⟨λh=>HN.out h.1,rfl⟩,rm.out⟩
 | true=>
  have HV:Hid (Np.VHist h):=jq (Np.eZ.1 lN.out);gi_wp2_with fail;refine⟨trivial,rfl,?_⟩;refine (callsIn_wide.2 (nameValid_any z hz _)).mono ?_;rintro e w3 ⟨rfl,ai⟩;have dR:=ai.size;replace m0:=aeK ai m0;replace m1:=aeK ai m1;replace m2:=aeK ai m2;replace m3:=aeK ai m3;replace m4:=aeK ai m4;replace m5:=aeK ai m5;replace m6:=aeK ai m6;replace m7:=aeK ai m7;replace m8:=aeK ai m8;replace mz:=aeK ai mz;have lL:=jq (ahQ bH.out ai);have GY:=jq (ahQ uP.out ai);have aw:=aeX ah ai;clear ai
  cases dg:Np.al z.data.toList with
  | false=>
   have gD:=jq dg;clear dg;have y0:=lL.out.cell;have y1:=lL.out.frozen;have z0:=GY.out.cell;have z1:=GY.out.frozen;gi_wp2_with fail;obtain⟨W,hW⟩:=afZ ((w3.setCell ⟨X+1+1,0,none⟩ (.slice none 0 0)).setCell ⟨X+1+1+1,0,none⟩ (.int .i64 1));have rm:Hid (Below X w W):=jq (by rw[<-hW];exact ((aw.out.blSe (p:=⟨X+1+1,0,none⟩) _).blSe (p:=⟨X+1+1+1,0,none⟩) _));have e0:W.cell? ⟨X+1+1,0,none⟩=some (.slice none 0 0):=by rw[<-hW];simp[go_sem,y0]
   have e1:W.cell? ⟨X+1+1+1,0,none⟩=some (.int .i64 1):=by rw[<-hW];simp[go_sem,z0]
   rw[hW];exact nf (v:=.tuple #[.slice none 0 0,.int .i64 1]) (by simp[results,results61,go_sem,e0,e1]) ⟨.inl ⟨λh=>absurd h.2 (by rw[gD.out];simp),rfl⟩,rm.out⟩
  | true=>
   have gD:=jq dg;have bW:Hid (Np.qD h z.data.toList):=jq ⟨HV.out,dg⟩;clear dg;have hX4:X+4<=w3.heap.size:=by omega
   have sr:∀ (w:World),(Instr.makeMap 213 none).run prog w = .ok (.map (some w.heap.size)) (w.alloc (.map #[] 0)):=λw=>by
    simp[Instr.makeMap,Result.andThen]
   obtain⟨Bh,ng⟩:=afZ w3.heap.size;obtain⟨w4,cG⟩:=afZ ((((w3.alloc (.cells #[.slice none 0 0] 52)).alloc (.cells #[.bool false] 4)).alloc (.map #[] 0)).alloc (.cells #[.map (some (Bh+1+1))] 213));have ar:Below w3.heap.size w3 w4:=by rw[<-cG];exact (((blAl).alloc (by simp) _).alloc (by simp<;>omega) _).alloc (by simp<;>omega) _
   have fz:w4.heap.size=Bh+4:=by rw[<-cG,<-ng];simp
   have v0:=aeK ar m0;have v1:=aeK ar m1;have v2:=aeK ar m2;have v3:=aeK ar m3;have v4:=aeK ar m4;have v5:=aeK ar m5;have v6:=aeK ar m6;have v7:=aeK ar m7;have v8:=aeK ar m8;have vz:=aeK ar mz;have yi:=jq (ahQ lL.out ar);have Vr:=jq (ahQ GY.out ar);have bi:=aeX aw ar;have UL:Hid (Boxed w4 Bh 52 (.slice none 0 0)):=jq (by
    rw[<-cG,<-ng];exact (((Boxed.new w3 52 (.slice none 0 0)).alloc _).alloc _).alloc _)
   have UO:Hid (Boxed w4 (Bh+1) 4 (.bool false)):=jq (by
    rw[<-cG,<-ng]
    have:=((Boxed.new (w3.alloc (.cells #[.slice none 0 0] 52)) 4 (.bool false)).alloc (.map #[] 0)).alloc (.cells #[.map (some (w3.heap.size+1+1))] 213)
    simpa using this)
   have UI:Hid (dJ (Bh+1+1) [] w4):=jq (by
    rw[<-cG,<-ng]
    have:=(dJ.made ((w3.alloc (.cells #[.slice none 0 0] 52)).alloc (.cells #[.bool false] 4))).stays (w':=((((w3.alloc (.cells #[.slice none 0 0] 52)).alloc (.cells #[.bool false] 4)).alloc (.map #[] 0)).alloc (.cells #[.map (some (w3.heap.size+1+1))] 213))) (Below.heap_alloc _ _ _ (by simp))
    simpa using this)
   have US:Hid (Boxed w4 (Bh+1+1+1) 213 (.map (some (Bh+1+1)))):=jq (by
    rw[<-cG,<-ng]
    have:=Boxed.new (((w3.alloc (.cells #[.slice none 0 0] 52)).alloc (.cells #[.bool false] 4)).alloc (.map #[] 0)) 213 (.map (some (w3.heap.size+1+1)))
    simpa using this)
   clear m0 m1 m2 m3 m4 m5 m6 m7 m8 mz;gi_wp2_with fail;clear sr ar;refine⟨trivial,rfl,?_⟩;refine (callsIn_wide.2 (IW _ _ _ _ _ _ _ _ _ 138 #[.pointer (some ⟨X+1,0,none⟩)] w4)).mono ?_;rintro e w6 ⟨rfl,bC⟩;have eX:w6.heap.size=Bh+6:=by rw[bC];simp;omega
   have aT:Below w4.heap.size w4 w6:=by rw[bC];exact (blAl).alloc (by simp) _
   have kX:w6.cell? ⟨Bh+4,1,none⟩=some (.slice A2 n2 c2):=by rw[bC,<-fz];simp[go_sem]
   have kO:w6.cell? ⟨Bh+4+1,0,none⟩=some (.func (.func 138) #[] #[.pointer (some ⟨X+1,0,none⟩)]):=by rw[bC,show Bh+4+1=w4.heap.size+1 by omega];simp[go_sem]
   rw[fz];obtain⟨L,gT,nk,lh⟩:=IZ (H4.out.keep mg (bi.out.trans (aT.afK)));have rx:=jq (aeK aT vz);have uU:=jq (IX L (λx=>x.1.str.data.toList == z.data.toList) 138 #[.pointer (some ⟨X+1,0,none⟩)] (Bh+4) (Bh+4+1) n2 c2 (λk=>k<w6.heap.size/\¬ (k=Bh\/k=Bh+1\/k=Bh+1+1)) A2 w6 ⟨by omega,by omega⟩ ⟨by omega,by omega⟩ kX kO nk (by have:=dZ.out.1;have:=lK.out;omega)
    (λi x hx=>by
      obtain⟨_,b,o,h1,h2,h3⟩:=lh i x hx;exact⟨b,o,h1,⟨by omega,by omega⟩,h3⟩) ZD
    (λx hx W hW=>by
      have h1:=(hW.cell (p:=⟨X+1,0,none⟩) ⟨by dsimp only;omega,by dsimp only;omega⟩).trans rx.out
      have:=hW.1
      exact aYY x.1.host x.1.frm x.1.til x.1.str _ x.1.A x.1.n x.1.c rfl (X+1) z W (by omega) h1))
   have AD:=jq (ahQ yi.out aT);have Vs:=jq (ahQ Vr.out aT);have UM:=jq (ahQ UL.out aT);have UP:=jq (ahQ UO.out aT);have UJ:Hid (dJ (Bh+1+1) [] w6):=jq (UI.out.keep aT (by omega));have Ae:=jq (ahQ US.out aT);have cn:=aeX bi aT;have iX:=jq gT;have qy:Hid (∀ x∈L,CVOf w6 X x.1 x.2):=jq (λx hx=>by obtain⟨i,hi⟩:=List.mem_iff_getElem?.1 hx;exact (lh i x hi).1);clear aT bC cG kX kO gT lh v0 v1 v2 v3 v4 v5 v6 v7 v8 vz;have IF:=jq eX;gi_wp2_with fail;refine Dd (Dr:=λk=>k<w6.heap.size/\¬ (k=Bh\/k=Bh+1\/k=Bh+1+1)) (w0:=w6) (first:=#[]) (captured:=#[.pointer (some ⟨Bh+4,0,none⟩),.pointer (some ⟨Bh+4+1,0,none⟩)]) (gf:=141) rfl I1 (mk:=λy=>#[y,.pointer (some ⟨Bh+4,0,none⟩),.pointer (some ⟨Bh+4+1,0,none⟩)]) (λ_=>rfl)
    uU.out (dI.refl λk e=>e.1) (λ_=>rfl) (D8 w6 Bh (Bh+1) (Bh+1+1) z) (λ_ _ _ _=>False)
    (S6 _ _ _ _ _) (λc s S W W' h _=>h)
    (λk=>k=Bh\/k=Bh+1\/k=Bh+1+1) (λk h1 h2=>h2.2 h1) (by intro k h;omega)
    ⟨[],.slice none 0 0,λk=>k=Bh\/k=Bh+1\/k=Bh+1+1\/¬ (k=Bh\/k=Bh+1\/k=Bh+1+1),.inl rfl,.inr (.inl rfl),.inr (.inr rfl),(λk e=>by rcases e with e | ⟨x,hx,_⟩;cases e;cases hx),(λk e=>by omega),(λk e=>.inr (.inr (.inr e))),.inl rfl,.inr (.inl rfl),.inr (.inr (.inl rfl)),UM.out,UP.out,UJ.out,PubR.nil _ _ _ _,rfl,RdStep.refl _ _⟩ ?round ?done ?stop
   case stop=>
    rintro D c pre S W hD el bR g8 h hK;exact h.elim
   case done=>
    rintro D S W hD el bR ⟨us,ov,M,EH,BI,EG,hown,pD,BF,mbo,mbt,mbm,BQ,rU,tR,yI,yX,bJ⟩ hK;obtain⟨te,KK⟩:=afZ ((L.filter λx=>x.1.str.data.toList == z.data.toList).isEmpty);have MT:Hid (Np.yt h z.data.toList↔te=false):=jq (by
     rw[<-KK,List.isEmpty_eq_false_iff_exists_mem];constructor
     ·rintro⟨c,hc,hz⟩;rw[<-iX.out] at hc;obtain⟨x,hx,rfl⟩:=List.mem_map.1 hc;exact⟨x,List.mem_filter.2 ⟨hx,by rw[(qy.out x hx).apex,hz];simp⟩⟩
     ·rintro⟨x,hx⟩;obtain⟨h1,h2⟩:=List.mem_filter.1 hx;refine⟨x.2,by rw[<-iX.out];exact List.mem_map.2 ⟨x,h1,rfl⟩,?_⟩;rw[<-(qy.out x h1).apex];simpa using h2)
    rw[KK] at rU;have lJ:Hid (us.map (λx=>(x.1,x.2.1))=Np.en (Np.gx h.copies z.data.toList)):=jq (by rw[yX,OV qy.out,iX.out]);have qM:=bJ.size;have MK:Hid (D<W.heap.size):=jq (eQ.1 hK).1;have rL:Below X w6 W:=bJ.below (by omega) (λk e=>by omega);have Mo:Hid (Below X w W):=aeX cn rL;have eu:Hid (Boxed W (X+1+1) 52 (.slice none 0 0)):=jq ((bJ.keep (X+1+1) (by omega) (by omega)).trans AD.out);have G5:Hid (Boxed W (X+1+1+1) 37 (.int .i64 0)):=jq ((bJ.keep (X+1+1+1) (by omega) (by omega)).trans Vs.out);have Gz:=jq BQ;have pm:=jq el;have eO:=jq pD;have DJ:=jq hK;have AH:=jq (PubK.start yI BF hown);have t0:=rU.cell;clear KK yX bJ rL BQ rU tR yI BF hown pD el hK mbo mbt mbm EH BI EG bR;have ox:X+1+1≠D:=by omega
    have EA:X+1+1+1≠D:=by omega
    cases te with
    | true=>
     simp only[Bool.not_true] at t0;have o0:=eu.out.cell;have o1:=eu.out.frozen;have q0:=G5.out.cell;have q1:=G5.out.frozen;gi_wp2_with fail;obtain⟨W',hW'⟩:=afZ ((W.setCell ⟨X+1+1,0,none⟩ (.slice none 0 0)).setCell ⟨X+1+1+1,0,none⟩ (.int .i64 4));have p7:W'.heap.size=W.heap.size:=by rw[<-hW'];simp
     have gI:∀ k,k≠X+1+1->k≠X+1+1+1->W'.heap[k]?=W.heap[k]?:=λk h1 h2=>by rw[<-hW'];exact (wQ _ _ _ k h2).trans (wQ _ _ _ k h1)
     have Bx:Below X w W':=by rw[<-hW'];exact ((Mo.out.blSe (p:=⟨X+1+1,0,none⟩) _).blSe (p:=⟨X+1+1+1,0,none⟩) _)
     have gZ:W'.os=W.os/\W'.tape=W.tape/\W'.output=W.output:=by rw[<-hW'];simp[World.setCell]
     have BB:W'.heap[D]?=some (.deferred (some [])):=(gI D (Ne.symm ox) (Ne.symm EA)).trans DJ.out;have e0:W'.cell? ⟨X+1+1,0,none⟩=some (.slice none 0 0):=by rw[<-hW'];simp[go_sem,o0]
     have e1:W'.cell? ⟨X+1+1+1,0,none⟩=some (.int .i64 4):=by rw[<-hW'];simp[go_sem,q0]
     have f0:=(iQ (w:=W') (w':=W'.putObj D (.deferred none)) (a:=⟨X+1+1,0,none⟩) (zQ ox)).trans e0;have f1:=(iQ (w:=W') (w':=W'.putObj D (.deferred none)) (a:=⟨X+1+1+1,0,none⟩) (zQ EA)).trans e1;rw[hW'];refine mv BB (v:=.tuple #[.slice none 0 0,.int .i64 4]) (by simp[results,results61,go_sem,f0,f1]) ⟨.inr ⟨bW.out,.inl ⟨(λh=>by have:=MT.out.1 h;cases this),rfl⟩⟩,lT Bx (by omega) _⟩
    | false=>
     simp only[Bool.not_false] at t0;obtain⟨n,hn⟩:=afZ us.length;obtain⟨oA,oc,rfl⟩:=AH.out.rows.row.formN hn;have Nl:=jq hn;have b0:=Gz.out.cell;obtain⟨PS,ED⟩:=afZ (Np.gx h.copies z.data.toList);have kU:=jq ED;rw[ED] at lJ;have Ni:Hid ((Np.en PS).length=n):=jq (by rw[<-lJ.out,List.length_map];exact hn);have Kp:n<=5000:=by rw[<-hn];have h1:=Sw lJ.out;have h2:=gl.out;rw[ED] at h2;omega
     clear hn ED;gi_wp2_with fail;gi_loopw [83] (λI wr=>∃ (i:Nat) (us':List PT) (ov':Value) (M':Nat->Prop),i<=n/\I = .int .i64 i/\W.heap.size<=wr.heap.size/\Hid (us'.length=n)/\Hid (Boxed wr Bh 52 ov')/\Hid (PubK S W w6.heap.size z M' us' ov' wr)/\Hid (us'.map (λx=>(x.1,x.2.1))=rb (Np.en PS) i)) (λI _=>n - (intOf I).toNat)
     case atStart=>exact⟨0,us,_,_,jQ _,rfl,bQ _,Nl,Gz,AH,jq (by rw[aUJ];exact lJ.out)⟩
     case round=>
      clear Gz AH lJ Nl b0 t0;obtain⟨i,us',ov',M',hi,rfl,zy,yh,xO,gB,Hy⟩:=hrel;by_cases ab:i<n
      ·obtain⟨g,cap,rfl,eD,EY,vZ⟩:=gB.out.rows.row.formSome yh.out (by omega);have M4:Hid (i<(Np.en PS).length):=jq (by rw[Ni.out];exact ab);obtain⟨⟨xs,xt,xv⟩,hx,hl⟩:=SE Hy.out M4.out;dsimp only at hl;have zj:=Np.Sx hl;have uc:aW w6.heap.size wr xv xt:=gB.out.rows.fresh _ (gQ hx);have MO:Hid (SlR fj 2 wr wr.heap.size xv xt):=jq (uc.slr (by have h1:=Np.LC PS xs;rw[<-zj] at h1;have h2:=gl.out;rw[kU.out] at h2;omega));have Xg:Hid (∀ s∈xt,Np.Eb s):=jq (λs hs=>Np.aZX (h:=h) (zone:=z.data.toList) (s:=xs) (by rw[kU.out,<-zj];exact hs) HV.out);have Xq:Hid (xt.length<=20000):=jq (by have h1:=Np.LC PS xs;rw[<-zj] at h1;have h2:=gl.out;rw[kU.out] at h2;omega);have HX:=jq hx;obtain⟨fA,fc,rfl⟩:=aW.form uc;have f6:wr.cell? ⟨g,i * 8+6,none⟩=some (.slice fA xt.length fc):=J3 gB.out.rows.row hx;obtain⟨fn,oC⟩:=afZ xt.length;rw[oC] at f6 HX MO;have b6:=xO.out.cell;have pS:(0:Int)<=(i:Int):=by omega
       have kp:(i:Int)<(n:Int):=by omega
       clear hx hl zj uc oC vZ;gi_wp2_with fail;refine zR λa0 aV=>?_;have gz:=jq aV;have ju:=jq (show a0.eval (.tmp 6) = .pointer (some ⟨Bh,0,none⟩) by rw[aV];rfl);have L8:=jq (show a0.eval (.tmp 15) = .int .i64 (i:Nat) by rw[aV];rfl);have HM:=jq (show a0.tmps.size=101 by rw[aV];rfl);clear aV;refine wpIn_wide.2 (wp_region_any (by kernel_rfl) ?_);refine dt 7 (D:=[0,1,2,3,4,5,6,11,12]) (val:=oR g n cap i fA fn fc undef) FM FN (rY HM.out) (by kernel_rfl) ?_ ?_
       ·intro i az aC o ho a' hb aq;have k6':=agK hb ju.out;have k15':=agK hb L8.out;simp[Act.eval] at k6' k15'
        repeat' (rcases az with _ | ⟨_,az⟩)
        all_goals first
         | (exfalso;simp at aC;done)
         | (cases ho
            try simp[Act.eval,Region.binds,oR,oP] at aq
            refine dh (by simp[Region.wanted]) ?_;simp[Oper.quietAt,Oper.quietUpon,execOp,go_sem,oR,k6',k15',b6,f6,pS,kp,C1,FO,aq])
       ·intro f listed a' hH hr hv;have av6:=hv 6;simp[Act.eval,oR,oP] at av6;simp only[wpOp];simp[Region.wanted];refine .inl ?_;simp[Oper.wp,go_sem,av6];refine (SC _ xt Xq.out Xg.out wr.drew (MO.out.keep gN (vQ wr.heap.size wr).drew)).mono ?_;rintro e wC ⟨v2,rfl,l5,BO⟩;have jI:Below wr.heap.size wr wC:=(vQ wr.heap.size wr).drew.trans BO;have hzC:=jI.size;replace b6:=aeK jI b6;replace f6:=aeK jI f6;have vY:=(World.frozen?_of_block (a:=⟨g,i * 8+6,none⟩) (jI.block g (by omega))).trans (gB.out.rows.row.frozenAt yh.out _);obtain⟨gA,gc,rfl⟩:=aW.form l5;obtain⟨gn,oE⟩:=afZ ((Np.eI xt).length);rw[oE] at l5 |-;have bH:=jq l5;have qq:=jq jI;clear l5 jI BO oE;dsimp only;refine dt 13 (D:=[0,1,2,3,4,5,6,8,9,10,11,12,7]) (val:=oR g n cap i fA fn fc (.tuple #[.slice gA gn gc,.int .i64 0])) FM FN (hH.next FM FN hr) (by kernel_rfl) ?_ ?_
        ·intro i az aC o ho a' hb aq;have k6':=agK hb ju.out;have k15':=agK hb L8.out;simp[Act.eval] at k6' k15'
         repeat' (rcases az with _ | ⟨_,az⟩)
         all_goals first
          | (exfalso;simp at aC;done)
          | (cases ho
             try simp[Act.eval,Region.binds,oR,oP] at aq
             refine dh (by simp[Region.wanted]) ?_;simp[Oper.quietAt,Oper.quietUpon,execOp,go_sem,oR,k6',k15',b6,f6,pS,kp,C1,FO,aq])
        ·intro f listed a' hH hr hv;have av9:=hv 9;have av12:=hv 12;simp[Act.eval,oR,oP,C1] at av9 av12;simp only[wpOp];simp[Region.wanted];refine .inl ?_;simp[Oper.wp,execOp,go_sem,av9,av12,f6,vY];clear b6 f6 vY;obtain⟨W',hW'⟩:=afZ (wC.setCell ⟨g,i * 8+6,none⟩ (.slice gA gn gc));have DH:=jq (gB.out.normed yh.out HX.out (ps':=Np.eI xt) qq.out bH.out (by have:=gB.out.rd.size;omega));rw[hW'] at DH |-;have cF:Below w6.heap.size wr W':=by rw[<-hW'];exact (qq.out.mono (by have:=gB.out.rd.size;omega)).blSe _
         have Dj:=jq (ahQ xO.out cF);clear cF;have RP:W'.heap.size=wC.heap.size:=by rw[<-hW'];simp[World.setCell]
         refine brK (R:=[10]) (D:=[0,1,2,3,4,5,6,8,9,10,11,12,7]) (dst:=oP) (val:=oR g n cap i fA fn fc (.tuple #[.slice gA gn gc,.int .i64 0])) (a0:=a0) (m:=101) HM.out (Ue (by kernel_rfl)) (by simp) (λi hi=>?_) (λi hi=>by simp at hi;subst hi;exact⟨_,rfl,rfl⟩) (λi hi=>(FM i hi).1) FN (λi hi o ho e he hb=>?_) (λi hi o ho a' aq=>?_) ?_ _ _ _ (hH.rest hr (by simp) (by kernel_rfl))
         ·simp at hi |-;omega
         ·simp at hi;subst hi
          cases ho
          simp at he;rcases he with rfl | rfl
          ·simp
          ·simp[Region.binds] at hb
         ·simp at hi;subst hi
          cases ho
          simp[Act.eval,Region.binds,oR,oP] at aq;refine dh (by simp[Region.wanted]) ?_;simp[Oper.quietAt,Oper.quietUpon,execOp,go_sem,oR,C1,FO,aq]
         ·rw[gz.out];simp[iA,Act.put,oR,oP];clear hv hH;gi_wp2_with fail;go_roundw
          case measure=>simp[intOf]<;>omega
          case rel=>exact⟨i+1,_,_,_,by omega,by go_num,by omega,jq (by rw[List.length_set];exact yh.out),Dj,DH,jq (aUZ Hy.out M4.out HX.out _)⟩
      ·obtain rfl:i=n:=by omega
       obtain⟨oA',oc',rfl⟩:=gB.out.rows.row.formN yh.out;have b0:=xO.out.cell;have PO:¬ S (X+1+1):=λe=>by have:=eO.out _ e;omega
       have PD:¬ S (X+1+1+1):=λe=>by have:=eO.out _ e;omega
       have pg:Hid (Boxed wr (X+1+1) 52 (.slice none 0 0)):=jq ((gB.out.rd.keep (X+1+1) (by omega) PO).trans eu.out);have MM:Hid (Boxed wr (X+1+1+1) 37 (.int .i64 0)):=jq ((gB.out.rd.keep (X+1+1+1) (by omega) PD).trans G5.out);have mT:Hid (wr.heap[D]?=some (.deferred (some []))):=jq ((gB.out.rd.keep D MK.out pm.out).trans DJ.out);have bp:Hid (Below X w wr):=jq (Mo.out.trans (gB.out.rd.below (by omega) (λk e=>by have:=eO.out k e;omega)));have o0:=pg.out.cell;have o1:=pg.out.frozen;have q0:=MM.out.cell;have q1:=MM.out.frozen;gi_wp2_with fail;obtain⟨W',hW'⟩:=afZ ((wr.setCell ⟨X+1+1,0,none⟩ (.slice oA' i oc')).setCell ⟨X+1+1+1,0,none⟩ (.int .i64 0));have p7:W'.heap.size=wr.heap.size:=by rw[<-hW'];simp
       have gI:∀ k,k≠X+1+1->k≠X+1+1+1->W'.heap[k]?=wr.heap[k]?:=λk h1 h2=>by rw[<-hW'];exact (wQ _ _ _ k h2).trans (wQ _ _ _ k h1)
       have Bx:Below X w W':=by rw[<-hW'];exact ((bp.out.blSe (p:=⟨X+1+1,0,none⟩) _).blSe (p:=⟨X+1+1+1,0,none⟩) _)
       have gZ:W'.os=wr.os/\W'.tape=wr.tape/\W'.output=wr.output:=by rw[<-hW'];simp[World.setCell]
       have BB:W'.heap[D]?=some (.deferred (some [])):=(gI D (Ne.symm ox) (Ne.symm EA)).trans mT.out;have e0:W'.cell? ⟨X+1+1,0,none⟩=some (.slice oA' i oc'):=by rw[<-hW'];simp[go_sem,o0]
       have e1:W'.cell? ⟨X+1+1+1,0,none⟩=some (.int .i64 0):=by rw[<-hW'];simp[go_sem,q0]
       have f0:=(iQ (w:=W') (w':=W'.putObj D (.deferred none)) (a:=⟨X+1+1,0,none⟩) (zQ ox)).trans e0;have f1:=(iQ (w:=W') (w':=W'.putObj D (.deferred none)) (a:=⟨X+1+1+1,0,none⟩) (zQ EA)).trans e1;rw[hW'];have sk:∀ k,k≠X+1+1->k≠X+1+1+1->k≠D->(W'.putObj D (.deferred none)).heap[k]?=wr.heap[k]?:=λk h1 h2 h3=>(zQ h3).trans (gI k h1 h2);have zw:(W'.putObj D (.deferred none)).heap.size=wr.heap.size:=by simpa using p7
       have Nv:=jq (gB.out.calm (T:=λk=>k=X+1+1\/k=X+1+1+1\/k=D) (λk e=>by
        rcases e with rfl | rfl | rfl
        ·exact⟨by omega,PO⟩
        ·exact⟨by omega,PD⟩
        ·exact⟨MK.out,pm.out⟩) (w':=W'.putObj D (.deferred none)) gZ zw (λk hk=>sk k (λe=>hk (.inl e)) (λe=>hk (.inr (.inl e))) (λe=>hk (.inr (.inr e)))))
       refine mv BB (v:=.tuple #[.slice oA' i oc',.int .i64 0]) (by simp[results,results61,go_sem,f0,f1]) ⟨.inr ⟨bW.out,.inr ⟨(by have h1:=MT.out;simpa using h1),_,rfl,?_⟩⟩,lT Bx (by omega) _⟩;intro Mq yG;have ur:=yh.out;have QH:us'.map (λx=>(x.1,x.2.1))=(Np.en PS).map λx=>(x.1,Np.eI x.2):=by rw[Hy.out,aUQ Ni.out]
       have awK:(us'.map λx=>(⟨z.data.toList,x.1,x.2.1,[]⟩:Np.Held))=Np.pub h.copies z.data.toList:=by
        have h1:=Qd (List.map λx:Np.Signed×List Np.Span=>(⟨z.data.toList,x.1,x.2,[]⟩:Np.Held)) QH;rw[List.map_map,List.map_map] at h1;refine Eq.trans h1 ?_;rw[<-kU.out];exact (Np.aQZ Np.eI _ _).symm
       rw[<-awK];exact Nv.out.slr hz (by omega) (λx hx=>by
        have h1:(x.1,x.2.1)∈us'.map (λx=>(x.1,x.2.1)):=List.mem_map.2 ⟨x,hx,rfl⟩;rw[QH] at h1;obtain⟨y,hy,he⟩:=List.mem_map.1 h1;simp only[Prod.mk.injEq] at he;rw[<-he.2];obtain⟨j,hj⟩:=List.mem_iff_getElem?.1 hy;have h2:=La y.2;have h3:=Np.LC PS y.1;rw[<-Np.Sx hj] at h3;have h4:=gl.out;rw[kU.out] at h4;omega) (λk hk=>by
        have h1:=yG k hk;refine⟨gB.out.ex k (by omega) (λe=>by have:=eO.out k e;omega),λe=>by have:=(Nv.out.lt e).1;omega⟩)
   case round=>
    rintro l0 pre ⟨⟨xh,xf,xt,xs,xA,xn,xc⟩,cc⟩ S W bM hI ed;have vC:Hid ((⟨⟨xh,xf,xt,xs,xA,xn,xc⟩,cc⟩:CV×Np.Copy)∈L):=jq ((List.mem_filter.1 (bM.subset (by simp:(⟨⟨xh,xf,xt,xs,xA,xn,xc⟩,cc⟩:CV×Np.Copy)∈_))).1);have ld:=aZJ hI ((vQ _ W).alloc (bQ _) (.cells #[.int .i64 xh,.int .i64 xf,.int .i64 xt,.string xs,.slice xA xn xc] 46));have qM:w6.heap.size<=W.heap.size:=by obtain⟨_,_,_,_,_,_,_,_,_,_,_,_,_,_,_,_,_,hB⟩:=hI;exact hB.size
    have DO:=jq bM;clear hI bM;gi_wp2;refine⟨λk=>S k\/k=W.heap.size,(RdStep.refl S W).alloc _,λk e=>e.imp id (λh=>by omega),λk e=>by rcases e with e | e;have:=ed k e;simp;omega;simp;omega,?_⟩;intro l W₂ ax;have Jo:=S6 w6 Bh (Bh+1) (Bh+1+1) z pre S _ W₂ ld (ax.weaken (bQ _) (λk e=>.inl e));have mb:=ax.size;simp only[World.size_alloc] at mb;have eT:W₂.heap[W.heap.size]?=some (.cells #[.int .i64 xh,.int .i64 xf,.int .i64 xt,.string xs,.slice xA xn xc] 46):=(ax.keep W.heap.size (by simp) (.inr (.inr rfl))).trans (heap_alloc_new _ _);obtain⟨us,ov,M,EH,BI,EG,hown,pD,BF,mbo,mbt,mbm,BQ,rU,tR,yI,yX,bJ⟩:=Jo;have Xf:Hid (∀ k,S k->k<W.heap.size):=jq ed;have eO:=jq pD;have tt:=jq (And.intro EH (And.intro BI EG));have qs:Hid (CVOf w6 X ⟨xh,xf,xt,xs,xA,xn,xc⟩ cc):=jq (qy.out _ vC.out);have rL:Below X w6 W₂:=bJ.below (by omega) (λk e=>by omega);have UA:=jq (cn.out.trans rL);have Il:=jq bJ;obtain⟨sets,oI⟩:=afZ cc.zone.sets;have DT:=jq oI;have Ir:Hid (SlR br 5 W₂ X (.slice xA xn xc) sets):=jq (by have:=(qs.out.keep rL).sets;rw[oI] at this;exact this);have zt:sets.length=xn:=by rw[<-oI];exact qs.out.len
    have vD:=jq zt;have tS:cc∈h.copies:=by rw[<-iX.out];exact List.mem_map.2 ⟨_,vC.out,rfl⟩
    have kM:=jq tS;have aEY:xn<=20000:=by rw[<-zt,<-oI];exact dZ.out.2 cc tS
    have PJ:Np.ia cc=⟨xf,xt⟩:=by
     have h1:=qs.out.frm;have h2:=qs.out.til;dsimp only at h1 h2;unfold Np.ia;rw[h1,h2]
    obtain⟨PP,Jz⟩:=afZ ((pre.map (·.2)).flatMap Np.p9);rw[Jz] at yX;have qm:Hid (((pre ++ [((⟨xh,xf,xt,xs,xA,xn,xc⟩,cc):CV×Np.Copy)]).map (·.2)).flatMap Np.p9=PP++sets.map λs=>((⟨xf,xt⟩:Np.Span),s)):=jq (by
     rw[List.map_append,List.flatMap_append,Jz];simp[Np.p9,PJ,oI])
    have NT:Hid (∃ c,Np.gx h.copies z.data.toList=(PP++sets.map λs=>((⟨xf,xt⟩:Np.Span),s))++c):=jq (by
     obtain⟨c,hc⟩:=aXX DO.out;rw[qm.out,OV qy.out,iX.out] at hc;exact⟨c,hc⟩)
    have Nu:Hid (∀ j,(psP PP ⟨xf,xt⟩ sets j).length<=5000):=jq (λj=>by
     obtain⟨c,hc⟩:=NT.out;have h1:=Qd List.length hc;have h2:=aYQ PP ⟨xf,xt⟩ sets j;have h3:=gl.out;rw[List.length_append] at h1;omega)
    have WF:Hid (∀ j,∀ p∈psP PP ⟨xf,xt⟩ sets j,Np.Plain47 p.2):=jq (λj p hp=>by
     obtain⟨c,hc⟩:=NT.out;have h1:p∈Np.gx h.copies z.data.toList:=by rw[hc];exact List.mem_append.2 (.inl (aYZ hp))
     obtain⟨d,hd,_,hs,_⟩:=Np.CW.1 h1;exact Np.Ut (HV.out.each d hd).zone hs (It.out d hd _ hs))
    obtain⟨w7,gL⟩:=afZ (W₂.setCell ⟨Bh+1,0,none⟩ (.bool true));have t7:Turned (Bh+1) W₂ w7:=by rw[<-gL];exact⟨rfl,rfl,rfl,by simp[World.setCell],λi hi=>wQ _ _ _ _ hi⟩
    have mG:w7.heap.size=W₂.heap.size:=t7.size;have amQ:=rU.cell;have amZ:=rU.frozen;have Ml:Hid (Boxed w7 (Bh+1) 4 (.bool true)):=jq (by rw[<-gL];exact rU.set _);have Mi:Hid (Boxed w7 Bh 52 ov):=jq ((t7.block Bh (by omega)).trans BQ);have Mf:Hid (dJ (Bh+1+1) (Np.nN (us.map (·.1))) w7):=jq (tR.stays (t7.block _ (by omega)));have ml:=jq eT;have P8:=(t7.block W.heap.size (by omega)).trans eT;have M7:Hid (PubK S W₂ w6.heap.size z (λk=>M k/\k<W₂.heap.size) us ov w7):=jq ((PubK.start yI BF hown).touch ⟨mbt,rU.lt⟩ (.inl BI) (λe=>by have:=(yI.lt e).1;omega) t7);have EQ:w7.cell? ⟨W.heap.size,4,none⟩=some (.slice xA xn xc):=by simp[World.cell?,P8]
    have Od:Hid (W₂.heap[X+1]?=w6.heap[X+1]?/\W₂.heap[Bh+1+1+1]?=w6.heap[Bh+1+1+1]?):=jq ⟨bJ.keep _ (by omega) (by omega),bJ.keep _ (by omega) (by omega)⟩;have Nh:Hid ((M Bh/\Bh<W₂.heap.size)/\(M (Bh+1+1)/\Bh+1+1<W₂.heap.size)/\(M (Bh+1)/\Bh+1<W₂.heap.size)):=jq ⟨⟨mbo,by omega⟩,⟨mbm,by omega⟩,⟨mbt,by omega⟩⟩;have Nj:=jq yX;have hXW:X+4<=Bh:=by omega
    have vM:Bh+6<=W.heap.size:=by omega
    have PN:W.heap.size<W₂.heap.size:=by omega
    have P5:¬ S W.heap.size:=λe=>by have:=ed _ e;omega
    have Dt:=jq P5;clear Jz oI BQ rU tR yI yX bJ t7 eT P8 ld ax ed pD BF mbo mbt mbm hown EH BI EG rL PJ tS P5;gi_wp2_with fail;clear gL EQ amQ amZ;obtain⟨ih,hih,arQ,arZ,arJ⟩:=info_parts Tryz.infoHeldA;gi_loopw [33] (λi wr=>∃ (j:Nat) (us:List PT) (ov:Value) (M:Nat->Prop),j<=xn/\i = .int .i64 j/\W₂.heap.size<=wr.heap.size/\Hid (Boxed wr Bh 52 ov)/\Hid (Boxed wr (Bh+1) 4 (.bool true))/\Hid (dJ (Bh+1+1) (Np.nN (us.map (·.1))) wr)/\Hid (PubK S W₂ w6.heap.size z M us ov wr)/\Hid (M Bh/\M (Bh+1+1)/\M (Bh+1))/\Hid (us.map (λx=>(x.1,x.2.1))=Np.en (psP PP ⟨xf,xt⟩ sets j))) (λi _=>xn - (intOf i).toNat)
    case atStart=>exact⟨0,us,ov,_,jQ _,rfl,by omega,Mi,Ml,Mf,M7,Nh,jq (by rw[aYK];exact Nj.out)⟩
    case round=>
     clear Mi Ml Mf M7 Nh Nj mG;obtain⟨j,us,ov,M,hj,rfl,zy,xO,Mn,Mg,gB,nX,lJ⟩:=hrel;have bp:Hid (Below X w wr):=jq (UA.out.trans (gB.out.rd.below (by omega) (λk e=>by have:=eO.out k e;omega)));have DI:Hid (∀ k,k<W₂.heap.size->¬ S k->wr.heap[k]?=W₂.heap[k]?):=jq gB.out.rd.keep;by_cases ab:j<xn
     ·obtain⟨x,ae⟩:∃ x,sets[j]?=some x:=⟨_,aQ (by rw[vD.out];exact ab)⟩;obtain⟨b',o,c',ss,dv,sv,hA,hb',_,hs,CA,aY,aN,e0,e1,e2,e3,e4⟩:=dB (Ir.out.keep aP (gB.out.rd.below (n:=X) (by omega) (λk e=>by have:=eO.out k e;omega))) ae;simp only[Value.slice.injEq] at hA;obtain⟨rfl,-,rfl⟩:=hA;have lz:x∈cc.zone.sets:=by rw[DT.out];exact gQ ae
      have Hq:Hid (KeyS x):=jq (buY (HV.out.each cc kM.out).zone lz (It.out cc kM.out x lz));have Ny:Hid (Np.Plain47 x):=jq (Np.Ut (HV.out.each cc kM.out).zone lz (It.out cc kM.out x lz));have iY:Hid (psP PP ⟨xf,xt⟩ sets (j+1)=psP PP ⟨xf,xt⟩ sets j ++ [(⟨xf,xt⟩,x)]):=jq (aYJ ae);have iZ:=jq (And.intro hs CA);have N8:Hid ((⟨⟨ss.data.toList,x.set.type,x.set.life,x.set.data⟩,x.sigs⟩:Np.Signed)=x):=jq (by rw[hs]);have pa:Hid (x.set.data.length<=1000/\x.sigs.length<=1000):=jq (by have h1:=Hq.out.few;have h2:=Hq.out.fewS;omega);have jy:Hid (∀ W',Below X wr W'->SlR ci 3 W' W'.heap.size dv x.set.data):=jq (λW' hb=>(aY.keep cJ hb).more di (by have:=hb.size;omega));have x6:Hid (∀ W',Below X wr W'->SlR fi 6 W' W'.heap.size sv x.sigs):=jq (λW' hb=>(aN.keep eL hb).more fJ (by have:=hb.size;omega));obtain⟨dA,dc,rfl,_,_⟩:=ak aY;obtain⟨gA,gc,rfl,_,_⟩:=ak aN;obtain⟨dn,jK⟩:=afZ x.set.data.length;obtain⟨gn,oE⟩:=afZ x.sigs.length;rw[jK] at e3 jy;rw[oE] at e4 x6;have Ak:=jq jK;have Ha:=jq oE;clear ae hs CA aY aN jK oE lz;have cj:(0:Int)<=(j:Int):=by omega
      have ck:(j:Int)<(xn:Int):=by omega
      obtain⟨w8,gM⟩:=afZ (wr.alloc (.cells #[.string ss,.int .i64 x.set.type,.int .i64 x.set.life,.slice dA dn dc,.slice gA gn gc] 42));have p6:w8.heap.size=wr.heap.size+1:=by rw[<-gM];simp
      have fU:Below wr.heap.size wr w8:=by rw[<-gM];exact blAl
      obtain⟨p0,p1,p2,p3,p4⟩:=cRow5 w8 (wr.heap.size) (.string ss) (.int .i64 x.set.type) (.int .i64 x.set.life) (.slice dA dn dc) (.slice gA gn gc) (by rw[<-gM];simp[go_sem]);have fd:=jq fU;clear fU;gi_wp2_with fail;refine⟨trivial,rfl,?_⟩;refine (CallsIn.inRound l (callsIn_wide.2 (bkQ ss x.set.type x.set.life _ _ x.set.data x.sigs w8 (qA.out.keepAt (bp.out.trans (fd.out.afK)) An.out) (by rw[N8.out];exact Hq.out) (jy.out w8 (fd.out.afK)) (x6.out w8 (fd.out.afK))))).mono ?_;rw[N8.out];rintro e w9 ⟨rfl,cS⟩;clear gM e0 e1 e2 e3 e4;have zu:=cS.size;have eN:Hid (Below wr.heap.size wr w9):=aeX fd cS;replace p0:=aeK cS p0;replace p1:=aeK cS p1;replace p2:=aeK cS p2;replace p3:=aeK cS p3;replace p4:=aeK cS p4;have Dn:=jq (ahQ xO.out eN.out);have Mm:=jq (ahQ Mn.out eN.out);have Gy:Hid (dJ (Bh+1+1) (Np.nN (us.map (·.1))) w9):=jq (Mg.out.keep eN.out (by omega));have rv:=jq (gB.out.keep eN.out);have EP:=(eN.out.block _ (by omega)).trans ((DI.out _ (by omega) Dt.out).trans ml.out);have Qf:w9.heap[X+1]?=w6.heap[X+1]?:=(eN.out.block _ (by omega)).trans ((DI.out _ (by omega) (λe=>by have:=eO.out _ e;omega)).trans Od.out.1);have Qe:w9.heap[Bh+1+1+1]?=w6.heap[Bh+1+1+1]?:=(eN.out.block _ (by omega)).trans ((DI.out _ (by omega) (λe=>by have:=eO.out _ e;omega)).trans Od.out.2);have bx:w9.cell? ⟨Bh+1+1+1,0,none⟩=some (.map (some (Bh+1+1))):=(iQ Qe).trans Ae.out.cell;have kz:w9.cell? ⟨X+1,0,none⟩=some (.string z):=(iQ Qf).trans rx.out;have l7:=baQ (P:=prog) w9 213 9 3 underlying213 underlying9 (Bh+1+1) _ Gy.out (Np.jm x) (.int .i64 0) (by kernel_rfl);have n7:Hid (∀ y∈us.map (·.1),Np.Plain47 y):=jq (λy hy=>by
       rw[FE lJ.out] at hy;obtain⟨p,hp,rfl⟩:=List.mem_map.1 (Np.FD.1 hy);exact WF.out j p hp)
      have AS:Hid ((us.map (·.1)).Nodup):=jq (by rw[FE lJ.out];exact Np.CY _);have NX:Hid (us.length<=5000):=jq (by have h1:=Sw lJ.out;have h2:=Nu.out j;omega);clear cS Qf Qe;obtain⟨key,so⟩:=afZ (Np.jm x);rw[so] at l7 |-;by_cases hin:x∈us.map (·.1)
      ·obtain⟨q,hq⟩:=List.mem_iff_getElem?.1 hin;have gh:(Np.nN (us.map (·.1))).lookup key=some (.int .i64 ((q:Nat):Int)):=by rw[<-so];exact Np.aLZ Ny.out n7.out AS.out hq
       rw[gh] at l7;simp only[Option.getD_some,Option.isSome_some] at l7;rw[FE lJ.out] at hq;obtain⟨fv,hy⟩:=aQY lJ.out hq;obtain⟨tl,ul⟩:=afZ (Np.f9 (psP PP ⟨xf,xt⟩ sets j) x);have kP:Hid (∀ v',(us.set q (x,tl ++ [⟨xf,xt⟩],v')).map (λx=>(x.1,x.2.1))=Np.en (psP PP ⟨xf,xt⟩ sets (j+1))):=jq (λv'=>by rw[iY.out,<-ul];exact aRZ lJ.out hq _ v');have Iw:Hid (tl.length<=5000):=jq (by rw[<-ul];have h1:=blQ (psP PP ⟨xf,xt⟩ sets j) x;have h2:=Nu.out j;omega);rw[ul] at hy;clear hin gh hq ul so;obtain⟨n,hn⟩:=afZ us.length;have bNQ:q<n:=by rw[<-hn];exact (cQ.1 hy).1
       obtain⟨g,cap,rfl,eD,EY,vZ⟩:=rv.out.rows.row.formSome hn (by omega);have iF:=jq hn;have Kp:n<=5000:=by rw[<-hn];exact NX.out
       have uc:aW w6.heap.size w9 fv tl:=rv.out.rows.fresh _ (gQ hy);obtain⟨fA,fc,rfl⟩:=aW.form uc;obtain⟨fn,oC⟩:=afZ tl.length;rw[oC] at hy uc;have uR:=jq oC;have HY:=jq hy;have kT:Hid (∀ k,(Value.slice fA fn fc).ownBlock=some k->w6.heap.size<=k/\k≠g/\k≠W.heap.size):=jq (λk e=>by
        have h1:=World.ownsRow.lt uc k e;have h2:=(rv.out.rows.off _ (gQ hy) k e).1;have h3:=rv.out.own k (.inr ⟨_,gQ hy,e⟩);exact⟨h1.1,λe=>h2 (by rw[e];rfl),λe2=>by
         subst e2;rcases h3 with h3 | h3
         ·exact Dt.out h3
         ·omega⟩)
       have b6:=Dn.out.cell;have f6:w9.cell? ⟨g,q * 8+6,none⟩=some (.slice fA fn fc):=J3 rv.out.rows.row hy;have c1:w9.cell? ⟨W.heap.size,1,none⟩=some (.int .i64 xf):=by simp[World.cell?,EP]
       have c2:w9.cell? ⟨W.heap.size,2,none⟩=some (.int .i64 xt):=by simp[World.cell?,EP]
       have pS:(0:Int)<=(q:Int):=by omega
       have kp:(q:Int)<(n:Int):=by omega
       have hgt:decide ((20000:Int)<(n:Int))=false:=afY;have aqK:decide (20000<n)=false:=afY;have tm:=rv;have Dm:=Dn;have GA:=Mm;have Dl:=Gy;have vd:=nX;have aqZ:W.heap.size<w9.heap.size:=by omega
       clear hn hy uc oC EP vZ;gi_wp2_with fail;refine zR λa0 aV=>?_;have gz:=jq aV;have ju:=jq (show a0.eval (.tmp 6) = .pointer (some ⟨Bh,0,none⟩) by rw[aV];rfl);have uI:=jq (show a0.eval (.tmp 13) = .int .i64 (q:Nat) by rw[aV];rfl);have uJ:=jq (show a0.eval (.tmp 9) = .pointer (some ⟨W.heap.size,0,none⟩) by rw[aV];rfl);have HM:=jq (show a0.tmps.size=101 by rw[aV];rfl);clear aV;refine Gj (by kernel_rfl) (by kernel_rfl) (by rintro⟨_,_,h⟩;exact h) ?_;refine dt 12 (D:=[0,1,2,3,4,5,6,7,8,9,10,11,14,15]) (val:=f8 g n cap q fA fn fc W.heap.size xf xt undef undef) oO ri (rY HM.out) (by kernel_rfl) ?_ ?_
       ·intro i az aC o ho a' hb aq;have k6':=agK hb ju.out;have k13':=agK hb uI.out;have k9':=agK hb uJ.out;simp[Act.eval] at k6' k13' k9'
        repeat' (rcases az with _ | ⟨_,az⟩)
        all_goals first
         | (exfalso;simp at aC;done)
         | (cases ho
            try simp[Act.eval,Region.binds,f8,jo] at aq
            refine dh (by simp[Region.wanted]) ?_;simp[Oper.quietAt,Oper.quietUpon,execOp,go_sem,f8,k6',k13',k9',b6,f6,c1,c2,pS,kp,aq])
       ·intro f listed a' hH hr hv;have av11:=hv 11;simp[Act.eval,f8,jo] at av11;simp only[wpOp];simp[Region.wanted];refine .inl ?_;simp[Oper.wp,execOp,go_sem,av11];obtain⟨wA,pX⟩:=afJ ((w9.alloc (.cells #[.int .i64 xf,.int .i64 xt] 110)).drew);rw[<-pX];have lV:Below w9.heap.size w9 wA:=by rw[pX];exact (blAl).drew
        have hzA:wA.heap.size=w9.heap.size+1:=by rw[pX];simp[World.drew]
        have Ai:Hid (wA.cell? ⟨w9.heap.size,0,none⟩=some (.int .i64 xf)/\wA.cell? ⟨w9.heap.size,1,none⟩=some (.int .i64 xt)):=jq (by rw[pX];exact⟨by simp[go_sem],by simp[go_sem]⟩);replace b6:=aeK lV b6;replace f6:=aeK lV f6;replace c1:=aeK lV c1;replace c2:=aeK lV c2;have uW:=jq (tm.out.keep lV);have fK:=jq lV;clear pX lV;refine dt 13 (D:=[0,1,2,3,4,5,6,7,8,9,10,11,14,15,12]) (val:=f8 g n cap q fA fn fc W.heap.size xf xt (.slice (some ⟨w9.heap.size,0,none⟩) 1 1) undef) oO ri (hH.next oO ri hr) (by kernel_rfl) ?_ ?_
        ·intro i az aC o ho a' hb aq;have k6':=agK hb ju.out;have k13':=agK hb uI.out;have k9':=agK hb uJ.out;simp[Act.eval] at k6' k13' k9'
         repeat' (rcases az with _ | ⟨_,az⟩)
         all_goals first
          | (exfalso;simp at aC;done)
          | (cases ho
             try simp[Act.eval,Region.binds,f8,jo] at aq
             refine dh (by simp[Region.wanted]) ?_;simp[Oper.quietAt,Oper.quietUpon,execOp,go_sem,f8,k6',k13',k9',b6,f6,c1,c2,pS,kp,aq])
        ·intro f listed a' hH hr hv;have av6:=hv 6;have av12:=hv 12;simp[f8,jo] at av6 av12;simp only[wpOp];simp[Region.wanted];refine .inl ?_;refine Ul wA (.tmp 68) (.tmp 74) rfl w6.heap.size (.slice fA fn fc) tl av6 (uW.out.rows.fresh _ (gQ HY.out)) w9.heap.size xf xt av12 Ai.out.1 Ai.out.2 (by have:=Iw.out;omega) (by omega) ?_;intro v8 wB eE cr il;obtain⟨eA,ec,rfl⟩:=SM eE (n:=(fn+1)) (by rw[List.length_append,uR.out];rfl);have hzB:=cr.size;have ffA:wA.frozen? ⟨g,q * 8+6,none⟩=false:=uW.out.rows.row.frozenAt iF.out _;have sj:wB.heap[Bh]?=wA.heap[Bh]?:=cr.block Bh (by omega) (λe=>by have:=(kT.out Bh e.symm).1;omega);have wH:wB.heap[g]?=wA.heap[g]?:=cr.block g (by omega) (λe=>(kT.out g e.symm).2.1 rfl);have wG:wB.heap[W.heap.size]?=wA.heap[W.heap.size]?:=cr.block W.heap.size (by omega) (λe=>(kT.out _ e.symm).2.2 rfl);replace b6:=(iQ (a:=⟨Bh,0,none⟩) sj).trans b6;replace f6:=(iQ (a:=⟨g,q * 8+6,none⟩) wH).trans f6;replace c1:=(iQ (a:=⟨W.heap.size,1,none⟩) wG).trans c1;replace c2:=(iQ (a:=⟨W.heap.size,2,none⟩) wG).trans c2;have ff:=(World.frozen?_of_block (a:=⟨g,q * 8+6,none⟩) wH).trans ffA;have H8:=jq (And.intro eE (And.intro cr il));clear eE cr il sj wH wG ffA;refine dt 16 (D:=[0,1,2,3,4,5,6,7,8,9,10,11,14,15,12,13]) (val:=f8 g n cap q fA fn fc W.heap.size xf xt (.slice (some ⟨w9.heap.size,0,none⟩) 1 1) (.slice eA (fn+1) ec)) oO ri (hH.next oO ri hr) (by kernel_rfl) ?_ ?_
         ·intro i az aC o ho a' hb aq;have k6':=agK hb ju.out;have k13':=agK hb uI.out;have k9':=agK hb uJ.out;simp[Act.eval] at k6' k13' k9'
          repeat' (rcases az with _ | ⟨_,az⟩)
          all_goals first
           | (exfalso;simp at aC;done)
           | (cases ho
              try simp[Act.eval,Region.binds,f8,jo] at aq
              refine dh (by simp[Region.wanted]) ?_;simp[Oper.quietAt,Oper.quietUpon,execOp,go_sem,f8,k6',k13',k9',b6,f6,c1,c2,pS,kp,aq])
         ·intro f listed a' hH hr hv;have av13:=hv 13;have av15:=hv 15;simp[Act.eval,f8,jo] at av13 av15;simp only[wpOp];simp[Region.wanted];refine .inl ?_;simp[Oper.wp,execOp,go_sem,av13,av15,f6,ff];refine uD hH hr HM.out oO (by kernel_rfl) λfE=>?_
          ·rw[fE,gz.out];simp[iA,Act.put,f8,jo];clear hv hH fE;clear b6 f6 c1 c2 ff;obtain⟨W',hW'⟩:=afZ (wB.setCell ⟨g,q * 8+6,none⟩ (.slice eA (fn+1) ec));have G8:Hid (PubK S W₂ w6.heap.size z (λk=>M k\/(Value.slice eA (fn+1) ec).ownBlock=some k) (us.set q (x,tl ++ [⟨xf,xt⟩],.slice eA (fn+1) ec)) (.slice (some ⟨g,0,none⟩) n cap) W'):=jq (by rw[<-hW'];exact uW.out.changed iF.out HY.out H8.out.2.1 H8.out.1 H8.out.2.2);have qq:Hid (Below w6.heap.size w9 W'):=jq (by rw[<-hW'];exact ((fK.out.afK).trans ((vQ _ _).grown H8.out.2.1 (by omega) (λk e=>(kT.out k e).1))).blSe _);have Is:Hid ((us.set q (x,tl ++ [(⟨xf,xt⟩:Np.Span)],Value.slice eA (fn+1) ec)).map (·.1)=us.map (·.1)):=jq (TI HY.out rfl);rw[hW'];have RP:W'.heap.size=wB.heap.size:=by rw[<-hW'];simp[World.setCell]
           gi_wp2_with fail;go_roundw
           case measure=>simp[intOf]<;>omega
           case rel=>exact⟨j+1,_,_,_,by omega,by go_num,by omega,jq (ahQ Dm.out qq.out),jq (ahQ GA.out qq.out),jq (by rw[Is.out];exact Dl.out.keep qq.out (by omega)),G8,jq ⟨.inl vd.out.1,.inl vd.out.2.1,.inl vd.out.2.2⟩,jq (kP.out _)⟩
      ·have gh:(Np.nN (us.map (·.1))).lookup key=none:=by rw[<-so];exact Np.aKY Ny.out n7.out hin
       rw[gh] at l7;simp only[Option.getD_none,Option.isSome_none] at l7;have QL:x∉Np.dH ((psP PP ⟨xf,xt⟩ sets j).map (·.2)):=by rw[<-FE lJ.out];exact hin
       obtain⟨m,hm⟩:=afZ us.length;have ve:=jq hm;have u7:Hid (m<=5000):=jq (by rw[<-hm];exact NX.out);obtain⟨wU,hmu,Cj,jR⟩:=baJ (P:=prog) w9 213 9 3 underlying213 underlying9 (Bh+1+1) _ Gy.out key (.int .i64 ((m:Nat):Int)) gh;obtain⟨oA,oc,rfl⟩:=rv.out.rows.row.formN hm;have b6:=Dn.out.cell;have kP:Hid (∀ v',((us ++ [((x,[],.slice none 0 0):PT)]).set m (x,[] ++ [⟨xf,xt⟩],v')).map (λx=>(x.1,x.2.1))=Np.en (psP PP ⟨xf,xt⟩ sets (j+1))):=jq (λv'=>by rw[iY.out,<-hm];exact aRQ lJ.out QL _ _ v');have RQ:wU.heap.size=w9.heap.size:=jR.size;have M9:=jq (rv.out.touch nX.out.2.1 (.inl tt.out.2.2) (λe=>by have:=(rv.out.rows.lt e).1;omega) jR);have uM:Hid (Below X wr wU):=jq ((eN.out.afK).trans (jR.below (by omega)));have Mj:Hid (Boxed wU Bh 52 (.slice oA m oc)):=jq ((jR.block Bh (by omega)).trans Dn.out);have UQ:Hid (Boxed wU (Bh+1) 4 (.bool true)):=jq ((jR.block (Bh+1) (by omega)).trans Mm.out);have UK:Hid (dJ (Bh+1+1) (Np.nN ((us ++ [((x,[],.slice none 0 0):PT)]).map (·.1))) wU):=jq (by
        rw[List.map_append,List.map_cons,List.map_nil,Np.aLQ,so,List.length_map,hm];exact Cj)
       have Vl:Hid (wU.heap[W.heap.size]?=W₂.heap[W.heap.size]?):=jq ((jR.block _ (by omega)).trans ((eN.out.block _ (by omega)).trans (DI.out _ (by omega) Dt.out)));clear hin gh QL hm so Cj EP;gi_wp2_with fail;replace b6:=Mj.out.cell;replace kz:=(iQ (a:=⟨X+1,0,none⟩) (jR.block (X+1) (by omega))).trans kz;replace p0:=(iQ (a:=⟨wr.heap.size,0,none⟩) (jR.block wr.heap.size (by omega))).trans p0;replace p1:=(iQ (a:=⟨wr.heap.size,1,none⟩) (jR.block wr.heap.size (by omega))).trans p1;replace p2:=(iQ (a:=⟨wr.heap.size,2,none⟩) (jR.block wr.heap.size (by omega))).trans p2;replace p3:=(iQ (a:=⟨wr.heap.size,3,none⟩) (jR.block wr.heap.size (by omega))).trans p3;replace p4:=(iQ (a:=⟨wr.heap.size,4,none⟩) (jR.block wr.heap.size (by omega))).trans p4;clear hmu l7 bx jR;refine zR λa0 aV=>?_;have gz:=jq aV;have ju:=jq (show a0.eval (.tmp 6) = .pointer (some ⟨Bh,0,none⟩) by rw[aV];rfl);have oZ:=jq (show a0.eval (.tmp 3) = .pointer (some ⟨X+1,0,none⟩) by rw[aV];rfl);have Di:=jq (show a0.eval (.tmp 11) = .pointer (some ⟨wr.heap.size,0,none⟩) by rw[aV];rfl);have HM:=jq (show a0.tmps.size=101 by rw[aV];rfl);clear aV;refine Gj (by kernel_rfl) (by kernel_rfl) (by rintro⟨_,_,h⟩;exact h) ?_;refine dt 3 (D:=[0,1,2]) (val:=kC oA m oc z ss x.set.type x.set.life dA dn dc gA gn gc undef undef undef) uv xp (rY HM.out) (by kernel_rfl) ?_ ?_
       ·intro i az aC o ho a' hb aq;have k6':=agK hb ju.out;have k3':=agK hb oZ.out;have k11':=agK hb Di.out;simp[Act.eval] at k6' k3' k11'
        repeat' (rcases az with _ | ⟨_,az⟩)
        all_goals first
         | (exfalso;simp at aC;done)
         | (cases ho
            try simp[Act.eval,Region.binds,kC,mK] at aq
            refine dh (by simp[Region.wanted]) ?_;simp[Oper.quietAt,Oper.quietUpon,execOp,go_sem,kC,k6',k3',k11',b6,kz,p0,p1,p2,p3,p4,zD,aq])
       ·intro f listed a' hH hr hv;have av2:=hv 2;simp[Act.eval,kC,mK] at av2;simp only[wpOp];simp[Region.wanted];refine .inl ?_;simp[Oper.wp,go_sem,av2];refine (OP ss x.set.type x.set.life _ x.set.data _ x.sigs (by have:=pa.out.1;omega) (by have:=pa.out.2;omega) wU.drew (jy.out wU.drew uM.out.drew) (x6.out wU.drew uM.out.drew)).mono ?_;rintro e wC ⟨dv2,gv2,rfl,gF,BO⟩;have jI:Below wU.heap.size wU wC:=(vQ wU.heap.size wU).drew.trans BO;have hzC:=jI.size;replace p0:=aeK jI p0;replace p1:=aeK jI p1;replace p2:=aeK jI p2;replace p3:=aeK jI p3;replace p4:=aeK jI p4;replace b6:=aeK jI b6;replace kz:=aeK jI kz;have mo:Hid (Gn wU.heap.size wC dv2 gv2 x.set.data x.sigs):=jq gF;obtain⟨dA2,dc2,rfl,_,_⟩:=ak ((gF (λ_=>False) (λ_ e=>e.elim)).1);obtain⟨gA2,gc2,rfl,_,_⟩:=ak ((gF (λ_=>False) (λ_ e=>e.elim)).2);rw[Ak.out,Ha.out] at mo |-;have VZ:=jq (M9.out.keep jI);have Gw:=jq jI;clear gF jI BO;dsimp only;refine dt 5 (D:=[0,1,2,4,3]) (val:=kC oA m oc z ss x.set.type x.set.life dA dn dc gA gn gc (.agg #[.string ss,.int .i64 x.set.type,.int .i64 x.set.life,.slice dA2 dn dc2,.slice gA2 gn gc2]) undef undef) uv xp (hH.next uv xp hr) (by kernel_rfl) ?_ ?_
        ·intro i az aC o ho a' hb aq;have k6':=agK hb ju.out;have k3':=agK hb oZ.out;have k11':=agK hb Di.out;simp[Act.eval] at k6' k3' k11'
         repeat' (rcases az with _ | ⟨_,az⟩)
         all_goals first
          | (exfalso;simp at aC;done)
          | (cases ho
             try simp[Act.eval,Region.binds,kC,mK] at aq
             refine dh (by simp[Region.wanted]) ?_;simp[Oper.quietAt,Oper.quietUpon,execOp,go_sem,kC,k6',k3',k11',b6,kz,p0,p1,p2,p3,p4,zD,aq])
        ·intro f listed a' hH hr hv;have av4:=hv 4;simp[Act.eval,kC,mK] at av4;simp only[wpOp];simp[Region.wanted];refine .inl ?_;simp[zD] at av4;simp[Oper.wp,execOp,go_sem,av4];obtain⟨wX,nK⟩:=afJ (wC.alloc (.cells #[.string z,.string ss,.int .i64 x.set.type,.int .i64 x.set.life,.slice dA2 dn dc2,.slice gA2 gn gc2,.slice none 0 0,.slice none 0 0] 57));rw[<-nK];have dK:Below wC.heap.size wC wX:=by rw[nK];exact blAl
         have BR:cA wX wC.heap.size 0 [.string z,.string ss,.int .i64 x.set.type,.int .i64 x.set.life,.slice dA2 dn dc2,.slice gA2 gn gc2,.slice none 0 0,.slice none 0 0]:=λi v hi=>by
          rw[nK]
          match i,hi with
          | 0,hi=>cases hi;simp[go_sem]
          | 1,hi=>cases hi;simp[go_sem]
          | 2,hi=>cases hi;simp[go_sem]
          | 3,hi=>cases hi;simp[go_sem]
          | 4,hi=>cases hi;simp[go_sem]
          | 5,hi=>cases hi;simp[go_sem]
          | 6,hi=>cases hi;simp[go_sem]
          | 7,hi=>cases hi;simp[go_sem]
          | i+8,hi=>simp at hi
         have RR:=dK.size;replace p0:=aeK dK p0;replace p1:=aeK dK p1;replace p2:=aeK dK p2;replace p3:=aeK dK p3;replace p4:=aeK dK p4;replace b6:=aeK dK b6;replace kz:=aeK dK kz;have rn:=jq BR;have Hr:=jq (VZ.out.keep dK);have xR:=jq dK;have jB:Hid (qE z (bG wX M) wX.heap.size [.string z,.string ss,.int .i64 x.set.type,.int .i64 x.set.life,.slice dA2 dn dc2,.slice gA2 gn gc2,.slice none 0 0,.slice none 0 0] (x,[],.slice none 0 0)):=jq (by
          have h1:=mo.out M (λk hk=>M9.out.lt k hk);have h2:=(Leaves'.of_below (M:=M) dK).slr cJ mL di h1.1;have h3:=(Leaves'.of_below (M:=M) dK).slr eL nS fJ h1.2;exact⟨ss,_,_,none,0,0,rfl,rfl,iZ.out.1,iZ.out.2,h2,h3⟩)
         clear nK dK BR;refine dt 6 (D:=[0,1,2,4,3,5]) (val:=kC oA m oc z ss x.set.type x.set.life dA dn dc gA gn gc (.agg #[.string ss,.int .i64 x.set.type,.int .i64 x.set.life,.slice dA2 dn dc2,.slice gA2 gn gc2]) (.slice (some ⟨wC.heap.size,0,none⟩) 1 1) undef) uv xp (hH.next uv xp hr) (by kernel_rfl) ?_ ?_
         ·intro i az aC o ho a' hb aq;have k6':=agK hb ju.out;have k3':=agK hb oZ.out;have k11':=agK hb Di.out;simp[Act.eval] at k6' k3' k11'
          repeat' (rcases az with _ | ⟨_,az⟩)
          all_goals first
           | (exfalso;simp at aC;done)
           | (cases ho
              try simp[Act.eval,Region.binds,kC,mK] at aq
              refine dh (by simp[Region.wanted]) ?_;simp[Oper.quietAt,Oper.quietUpon,execOp,go_sem,kC,k6',k3',k11',b6,kz,p0,p1,p2,p3,p4,zD,aq])
         ·intro f listed a' hH hr hv;have av0:=hv 0;have av5:=hv 5;simp[kC,mK] at av0 av5;simp only[wpOp];simp[Region.wanted];refine .inl ?_;refine LZ (R:=qE z) (M:=M) wX (.tmp 52) (.tmp 57) 52 rfl w6.heap.size yP ih (.agg #[.string ⟨#[]⟩,.string ⟨#[]⟩,.int .i64 0,.int .i64 0,.slice none 0 0,.slice none 0 0,.slice none 0 0,.slice none 0 0]) 144 underlying52 hih arQ arZ arJ rfl (by decide) (.slice oA m oc) us av0 Hr.out.rows.row (some ⟨wC.heap.size,0,none⟩) 1 [(x,[],.slice none 0 0)] av5 (Lh rfl jB.out rn.out) (a8J z) (by rw[ve.out];have:=u7.out;simp[maxLen];omega) (by rw[ve.out];have:=u7.out;simp;omega) (by omega) (F4 z) (F6 z) (F5 z) ?_;intro v8 wY eE cr il;obtain⟨A8,c8,rfl⟩:=eE.formN (n:=m+1) (by rw[List.length_append,ve.out];rfl);have RS:=cr.size;have Fa:∀ k,(Value.slice oA m oc).ownBlock=some k->w6.heap.size<=k/\k<wr.heap.size:=λk e=>by have h1:=gB.out.rows.row.lt k e;exact h1
          have yU:wY.heap[wr.heap.size]?=wX.heap[wr.heap.size]?:=cr.block _ (by omega) (λe=>by have:=(Fa _ e.symm).2;omega);have sj:wY.heap[Bh]?=wX.heap[Bh]?:=cr.block _ (by omega) (λe=>by have:=(Fa _ e.symm).1;omega);have Qz:wY.heap[X+1]?=wX.heap[X+1]?:=cr.block _ (by omega) (λe=>by have:=(Fa _ e.symm).1;omega);replace p0:=(iQ (a:=⟨wr.heap.size,0,none⟩) yU).trans p0;replace p1:=(iQ (a:=⟨wr.heap.size,1,none⟩) yU).trans p1;replace p2:=(iQ (a:=⟨wr.heap.size,2,none⟩) yU).trans p2;replace p3:=(iQ (a:=⟨wr.heap.size,3,none⟩) yU).trans p3;replace p4:=(iQ (a:=⟨wr.heap.size,4,none⟩) yU).trans p4;replace b6:=(iQ (a:=⟨Bh,0,none⟩) sj).trans b6;replace kz:=(iQ (a:=⟨X+1,0,none⟩) Qz).trans kz;have Mk:Hid (Boxed wY Bh 52 (.slice oA m oc)):=jq (sj.trans ((xR.out.block Bh (by omega)).trans ((Gw.out.block Bh (by omega)).trans Mj.out)));have Vm:Hid (wY.heap[W.heap.size]?=wU.heap[W.heap.size]?):=jq ((cr.block _ (by omega) (λe=>by
           rcases Hr.out.own _ (.inl e.symm) with h1 | h1
           ·exact Dt.out h1
           ·omega)).trans ((xR.out.block _ (by omega)).trans (Gw.out.block _ (by omega))))
          have UX:Hid (Below w6.heap.size wX wY):=jq ((vQ _ _).grown cr (by omega) (λk e=>(Fa k e).1));have pb:=jq (Hr.out.push eE cr il);clear eE cr il yU sj Qz;refine dt 7 (D:=[0,1,2,4,3,5,6]) (val:=kC oA m oc z ss x.set.type x.set.life dA dn dc gA gn gc (.agg #[.string ss,.int .i64 x.set.type,.int .i64 x.set.life,.slice dA2 dn dc2,.slice gA2 gn gc2]) (.slice (some ⟨wC.heap.size,0,none⟩) 1 1) (.slice A8 (m+1) c8)) uv xp (hH.next uv xp hr) (by kernel_rfl) ?_ ?_
          ·intro i az aC o ho a' hb aq;have k6':=agK hb ju.out;have k3':=agK hb oZ.out;have k11':=agK hb Di.out;simp[Act.eval] at k6' k3' k11'
           repeat' (rcases az with _ | ⟨_,az⟩)
           all_goals first
            | (exfalso;simp at aC;done)
            | (cases ho
               try simp[Act.eval,Region.binds,kC,mK] at aq
               refine dh (by simp[Region.wanted]) ?_;simp[Oper.quietAt,Oper.quietUpon,execOp,go_sem,kC,k6',k3',k11',b6,kz,p0,p1,p2,p3,p4,zD,aq])
          ·intro f listed a' hH hr hv;have av6:=hv 6;simp[Act.eval,kC,mK] at av6;simp only[wpOp];simp[Region.wanted];refine .inl ?_;have bf:=Mk.out.frozen;have k6':=(aJ hH.good.base (j:=6) (by decide) (by decide)).trans ju.out;simp[Act.eval] at k6';simp[Oper.wp,execOp,go_sem,av6,b6,bf,k6'];refine uD hH hr HM.out uv (by kernel_rfl) λfE=>?_
           ·rw[fE,gz.out];simp[iA,Act.put,kC,mK];clear hv hH fE;clear p0 p1 p2 p3 p4 b6 kz bf;obtain⟨wZ,Fq⟩:=afZ (wY.setCell ⟨Bh,0,none⟩ (.slice A8 (m+1) c8));have tZ:Turned Bh wY wZ:=by rw[<-Fq];exact⟨rfl,rfl,rfl,by simp[World.setCell],λi hi=>wQ _ _ _ _ hi⟩
            have hzZ:wZ.heap.size=wY.heap.size:=tZ.size;have Dm:Hid (Boxed wZ Bh 52 (.slice A8 (m+1) c8)):=jq (by rw[<-Fq];exact Mk.out.set _);have Jk:Below w6.heap.size wU wY:=((Gw.out.afK).trans (xR.out.afK)).trans UX.out;have GA:Hid (Boxed wZ (Bh+1) 4 (.bool true)):=jq ((tZ.block (Bh+1) (by omega)).trans (ahQ UQ.out Jk));have Dl:Hid (dJ (Bh+1+1) (Np.nN ((us ++ [((x,[],.slice none 0 0):PT)]).map (·.1))) wZ):=jq ((UK.out.keep Jk (by omega)).stays (tZ.block _ (by omega)));obtain⟨u1,um⟩:=afZ (us ++ [((x,[],.slice none 0 0):PT)]);obtain⟨M1,Jv⟩:∃ M1:Nat->Prop,(λk=>M k\/(Value.slice A8 (m+1) c8).ownBlock=some k)=M1:=⟨_,rfl⟩;have tm:Hid (PubK S W₂ w6.heap.size z M1 u1 (.slice A8 (m+1) c8) wZ):=jq (by rw[<-um,<-Jv];exact pb.out.touch (.inl nX.out.1) (.inl tt.out.1) (λe=>by have:=(pb.out.rows.lt e).1;omega) tZ);have vd:Hid (M1 Bh/\M1 (Bh+1+1)/\M1 (Bh+1)):=jq (by rw[<-Jv];exact⟨.inl nX.out.1,.inl nX.out.2.1,.inl nX.out.2.2⟩);rw[um] at Dl kP;have HY:Hid (u1[m]?=some (x,[],.slice none 0 0)):=jq (by rw[<-um,<-ve.out];simp);have iF:Hid (u1.length=m+1):=jq (by rw[<-um,<-ve.out];simp);have uR:Hid (([]:List Np.Span).length=0):=jq rfl;have Iw:Hid (([]:List Np.Span).length<=5000):=jq (by simp);obtain⟨g,cap,Qo,eD,EY,vZ⟩:=tm.out.rows.row.formSome iF.out (by omega);simp only[Value.slice.injEq] at Qo;obtain⟨rfl,-,rfl⟩:=Qo;have kT:Hid (∀ k,(Value.slice none 0 0).ownBlock=some k->w6.heap.size<=k/\k≠g/\k≠W.heap.size):=jq (λk e=>by cases e);have JW:=((tZ.block _ (by omega)).trans (Vm.out.trans Vl.out)).trans ml.out;have b6:=Dm.out.cell;have f6:wZ.cell? ⟨g,m * 8+6,none⟩=some (.slice none 0 0):=J3 tm.out.rows.row HY.out;have c1:wZ.cell? ⟨W.heap.size,1,none⟩=some (.int .i64 xf):=by simp[World.cell?,JW]
            have c2:wZ.cell? ⟨W.heap.size,2,none⟩=some (.int .i64 xt):=by simp[World.cell?,JW]
            have pS:(0:Int)<=(m:Int):=by omega
            have kp:(m:Int)<(m:Int)+1:=by omega
            have hgt:decide ((20000:Int)<(m:Int)+1)=false:=tQ (by have:=u7.out;omega);have aqK:decide (20000<m+1)=false:=tQ (by have:=u7.out;omega);rw[Fq];have aqZ:W.heap.size<wZ.heap.size:=by omega
            clear JW vZ Jk tZ Fq um Jv;gi_wp2_with fail;refine zR λa0 aV=>?_;have gz:=jq aV;have ju:=jq (show a0.eval (.tmp 6) = .pointer (some ⟨Bh,0,none⟩) by rw[aV];rfl);have uI:=jq (show a0.eval (.tmp 13) = .int .i64 (m:Nat) by rw[aV];rfl);have uJ:=jq (show a0.eval (.tmp 9) = .pointer (some ⟨W.heap.size,0,none⟩) by rw[aV];rfl);have HM:=jq (show a0.tmps.size=101 by rw[aV];rfl);clear aV;refine Gj (by kernel_rfl) (by kernel_rfl) (by rintro⟨_,_,h⟩;exact h) ?_;refine dt 12 (D:=[0,1,2,3,4,5,6,7,8,9,10,11,14,15]) (val:=f8 g (m+1) c8 m none 0 0 W.heap.size xf xt undef undef) oO ri (rY HM.out) (by kernel_rfl) ?_ ?_
            ·intro i az aC o ho a' hb aq;have k6':=agK hb ju.out;have k13':=agK hb uI.out;have k9':=agK hb uJ.out;simp[Act.eval] at k6' k13' k9'
             repeat' (rcases az with _ | ⟨_,az⟩)
             all_goals first
              | (exfalso;simp at aC;done)
              | (cases ho
                 try simp[Act.eval,Region.binds,f8,jo] at aq
                 refine dh (by simp[Region.wanted]) ?_;simp[Oper.quietAt,Oper.quietUpon,execOp,go_sem,f8,k6',k13',k9',b6,f6,c1,c2,pS,kp,aq])
            ·intro f listed a' hH hr hv;have av11:=hv 11;simp[Act.eval,f8,jo] at av11;simp only[wpOp];simp[Region.wanted];refine .inl ?_;simp[Oper.wp,execOp,go_sem,av11];obtain⟨wA,pX⟩:=afJ ((wZ.alloc (.cells #[.int .i64 xf,.int .i64 xt] 110)).drew);rw[<-pX];have lV:Below wZ.heap.size wZ wA:=by rw[pX];exact (blAl).drew
             have hzA:wA.heap.size=wZ.heap.size+1:=by rw[pX];simp[World.drew]
             have Ai:Hid (wA.cell? ⟨wZ.heap.size,0,none⟩=some (.int .i64 xf)/\wA.cell? ⟨wZ.heap.size,1,none⟩=some (.int .i64 xt)):=jq (by rw[pX];exact⟨by simp[go_sem],by simp[go_sem]⟩);replace b6:=aeK lV b6;replace f6:=aeK lV f6;replace c1:=aeK lV c1;replace c2:=aeK lV c2;have uW:=jq (tm.out.keep lV);have fK:=jq lV;clear pX lV;refine dt 13 (D:=[0,1,2,3,4,5,6,7,8,9,10,11,14,15,12]) (val:=f8 g (m+1) c8 m none 0 0 W.heap.size xf xt (.slice (some ⟨wZ.heap.size,0,none⟩) 1 1) undef) oO ri (hH.next oO ri hr) (by kernel_rfl) ?_ ?_
             ·intro i az aC o ho a' hb aq;have k6':=agK hb ju.out;have k13':=agK hb uI.out;have k9':=agK hb uJ.out;simp[Act.eval] at k6' k13' k9'
              repeat' (rcases az with _ | ⟨_,az⟩)
              all_goals first
               | (exfalso;simp at aC;done)
               | (cases ho
                  try simp[Act.eval,Region.binds,f8,jo] at aq
                  refine dh (by simp[Region.wanted]) ?_;simp[Oper.quietAt,Oper.quietUpon,execOp,go_sem,f8,k6',k13',k9',b6,f6,c1,c2,pS,kp,aq])
             ·intro f listed a' hH hr hv;have av6:=hv 6;have av12:=hv 12;simp[f8,jo] at av6 av12;simp only[wpOp];simp[Region.wanted];refine .inl ?_;refine Ul wA (.tmp 68) (.tmp 74) rfl w6.heap.size (.slice none 0 0) [] av6 (uW.out.rows.fresh _ (gQ HY.out)) wZ.heap.size xf xt av12 Ai.out.1 Ai.out.2 (by have:=Iw.out;omega) (by omega) ?_;intro v8 wB eE cr il;obtain⟨eA,ec,rfl⟩:=SM eE (n:=1) (by rw[List.length_append,uR.out];rfl);have hzB:=cr.size;have ffA:wA.frozen? ⟨g,m * 8+6,none⟩=false:=uW.out.rows.row.frozenAt iF.out _;have sj:wB.heap[Bh]?=wA.heap[Bh]?:=cr.block Bh (by omega) (λe=>by have:=(kT.out Bh e.symm).1;omega);have wH:wB.heap[g]?=wA.heap[g]?:=cr.block g (by omega) (λe=>(kT.out g e.symm).2.1 rfl);have wG:wB.heap[W.heap.size]?=wA.heap[W.heap.size]?:=cr.block W.heap.size (by omega) (λe=>(kT.out _ e.symm).2.2 rfl);replace b6:=(iQ (a:=⟨Bh,0,none⟩) sj).trans b6;replace f6:=(iQ (a:=⟨g,m * 8+6,none⟩) wH).trans f6;replace c1:=(iQ (a:=⟨W.heap.size,1,none⟩) wG).trans c1;replace c2:=(iQ (a:=⟨W.heap.size,2,none⟩) wG).trans c2;have ff:=(World.frozen?_of_block (a:=⟨g,m * 8+6,none⟩) wH).trans ffA;have H8:=jq (And.intro eE (And.intro cr il));clear eE cr il sj wH wG ffA;refine dt 16 (D:=[0,1,2,3,4,5,6,7,8,9,10,11,14,15,12,13]) (val:=f8 g (m+1) c8 m none 0 0 W.heap.size xf xt (.slice (some ⟨wZ.heap.size,0,none⟩) 1 1) (.slice eA 1 ec)) oO ri (hH.next oO ri hr) (by kernel_rfl) ?_ ?_
              ·intro i az aC o ho a' hb aq;have k6':=agK hb ju.out;have k13':=agK hb uI.out;have k9':=agK hb uJ.out;simp[Act.eval] at k6' k13' k9'
               repeat' (rcases az with _ | ⟨_,az⟩)
               all_goals first
                | (exfalso;simp at aC;done)
                | (cases ho
                   try simp[Act.eval,Region.binds,f8,jo] at aq
                   refine dh (by simp[Region.wanted]) ?_;simp[Oper.quietAt,Oper.quietUpon,execOp,go_sem,f8,k6',k13',k9',b6,f6,c1,c2,pS,kp,aq])
              ·intro f listed a' hH hr hv;have av13:=hv 13;have av15:=hv 15;simp[Act.eval,f8,jo] at av13 av15;simp only[wpOp];simp[Region.wanted];refine .inl ?_;simp[Oper.wp,execOp,go_sem,av13,av15,f6,ff];refine uD hH hr HM.out oO (by kernel_rfl) λfE=>?_
               ·rw[fE,gz.out];simp[iA,Act.put,f8,jo];clear hv hH fE;clear b6 f6 c1 c2 ff;obtain⟨W',hW'⟩:=afZ (wB.setCell ⟨g,m * 8+6,none⟩ (.slice eA 1 ec));have G8:Hid (PubK S W₂ w6.heap.size z (λk=>M1 k\/(Value.slice eA 1 ec).ownBlock=some k) (u1.set m (x,[] ++ [⟨xf,xt⟩],.slice eA 1 ec)) (.slice (some ⟨g,0,none⟩) (m+1) c8) W'):=jq (by rw[<-hW'];exact uW.out.changed iF.out HY.out H8.out.2.1 H8.out.1 H8.out.2.2);have qq:Hid (Below w6.heap.size wZ W'):=jq (by rw[<-hW'];exact ((fK.out.afK).trans ((vQ _ _).grown H8.out.2.1 (by omega) (λk e=>(kT.out k e).1))).blSe _);have Is:Hid ((u1.set m (x,[] ++ [(⟨xf,xt⟩:Np.Span)],Value.slice eA 1 ec)).map (·.1)=u1.map (·.1)):=jq (TI HY.out rfl);rw[hW'];have RP:W'.heap.size=wB.heap.size:=by rw[<-hW'];simp[World.setCell]
                gi_wp2_with fail;go_roundw
                case measure=>simp[intOf]<;>omega
                case rel=>exact⟨j+1,_,_,_,by omega,by go_num,by omega,jq (ahQ Dm.out qq.out),jq (ahQ GA.out qq.out),jq (by rw[Is.out];exact Dl.out.keep qq.out (by omega)),G8,jq ⟨.inl vd.out.1,.inl vd.out.2.1,.inl vd.out.2.2⟩,jq (kP.out _)⟩
     ·obtain rfl:j=xn:=by omega
      obtain⟨PG,JB⟩:=gB.out.stop;have qB:=jq PG;have gP:=jq JB;have WV:Hid (RdStep (λk=>k=Bh\/k=Bh+1\/k=Bh+1+1) w6 wr):=jq (Il.out.trans gB.out.rd (λk e=>by have:=eO.out k e;omega));clear PG JB;gi_wp2_with fail;refine⟨λk=>S k\/(W₂.heap.size<=k/\k<wr.heap.size),gB.out.rd.mono (λk e=>.inl e),λk e=>?_,λk e=>?_,us,ov,_,.inl tt.out.1,.inl tt.out.2.1,.inl tt.out.2.2,gP.out,λk e=>?_,λk e=>.inr e,.inl nX.out.1,.inl nX.out.2.2,.inl nX.out.2.1,xO.out,?_,Mg.out,qB.out,?_,WV.out⟩
      ·rcases e with e | e
       ·exact .inl (.inl e)
       ·exact .inr e.1
      ·rcases e with e | e
       ·have:=Xf.out k e;omega
       ·exact e.2
      ·rcases e with e | e
       ·exact eO.out k e
       ·right;right;right;omega
      ·have e:(!(pre ++ [((⟨xh,xf,xt,xs,xA,j,xc⟩,cc):CV×Np.Copy)]).isEmpty)=true:=by simp
       rw[e];exact Mn.out
      ·rw[qm.out,<-aXY vD.out];exact lJ.out
end
section
open Go.RowKit
noncomputable def Np.nR(h:Np.Hist)(z:List UInt8):Int×List Np.Held:=if Np.yes (Np.qD h z) then (if Np.yes (Np.yt h z) then (0,Np.pub h.copies z) else (4,[])) else (1,[])
noncomputable def Np.oT(h:Np.Hist)(z:List UInt8)(addr:Int):Int×List Np.Span:=if Np.yes (Np.qD h z) then (if Np.lv h.hosts addr<0 then (4,[]) else (0,Np.nT h.copies z (Np.lv h.hosts addr))) else (1,[])
noncomputable def Np.uF(h:Np.Hist):Int×List (List UInt8):=if Np.yes (Np.VHist h) then (0,Np.apexes h.copies) else (1,[])
theorem Np.aZK{h:Np.Hist}{z:List UInt8}(k:¬ Np.qD h z):Np.nR h z=(1,[]):=by unfold Np.nR;rw[Np.aR k];rfl
theorem Np.S7{h:Np.Hist}{z:List UInt8}(k:Np.qD h z)(k2:¬ Np.yt h z):Np.nR h z=(4,[]):=by unfold Np.nR;rw[Np.bV k,Np.aR k2];rfl
theorem Np.S8{h:Np.Hist}{z:List UInt8}(k:Np.qD h z)(k2:Np.yt h z):Np.nR h z=(0,Np.pub h.copies z):=by unfold Np.nR;rw[Np.bV k,Np.bV k2];rfl
theorem Np.Us{h:Np.Hist}(k:Np.VHist h):Np.uF h=(0,Np.apexes h.copies):=by unfold Np.uF;rw[Np.bV k];rfl
theorem Np.buK{h:Np.Hist}(k:¬ Np.VHist h):Np.uF h=(1,[]):=by unfold Np.uF;rw[Np.aR k];rfl
theorem Np.bhK{h:Np.Hist}{z:List UInt8}{a:Int}(k:¬ Np.qD h z):Np.oT h z a=(1,[]):=by unfold Np.oT;rw[Np.aR k];rfl
theorem Np.C7{h:Np.Hist}{z:List UInt8}{a:Int}(k:Np.qD h z):Np.oT h z a=if Np.lv h.hosts a<0 then (4,[]) else (0,Np.nT h.copies z (Np.lv h.hosts a)):=by unfold Np.oT;rw[Np.bV k];rfl
structure rt(w:World)(e:List Value)(h:Np.Hist):Prop where
 rh:ik w w.heap.size e h
 use:Np.Use h
 sums:Np.pr h
theorem rt.keep{w w':World}{e:List Value}{h:Np.Hist}(k:rt w e h)(hb:Below w.heap.size w w'):rt w' e h:=
 ⟨sV _ _ _ _ _ (sU _ _ _ _ _ k.rh hb) hb.size,k.use,k.sums⟩
structure j9(n:Nat)(w:World):Prop where
 rules:gq w n
 pow:ij w
 lt:1<n
theorem j9.keep{n:Nat}{w w':World}(k:j9 n w)(hb:Below n w w'):j9 n w':=⟨k.rules.keep hb,k.pow.keepAt hb k.lt,k.lt⟩
theorem j9.more{n m:Nat}{w:World}(k:j9 n w)(h:n<=m):j9 m w:=⟨k.rules.more h,k.pow,lQ k.lt h⟩
theorem j9.next{w w':World}(k:j9 w.heap.size w)(hb:Below w.heap.size w w'):j9 w'.heap.size w':=(k.keep hb).more hb.size
theorem TH(l:List Np.Copy)(z:List UInt8)(k:Int):(Np.nT l z k).length<=l.length:=by
 unfold Np.nT;refine yQ (La _) ?_;rw[List.length_map];exact List.length_filter_le _ _
theorem Yn{h:Np.Hist}(v:Np.VHist h):∀ x∈Np.apexes h.copies,x.length<=140737488355328:=λx hx=>by
 obtain⟨c,hc,rfl⟩:=Np.Fz.1 hx;have h1:=(Np.uG (v.each c hc).zone).1
 have:=(Np.zC h1).1
 omega
theorem Yl(l:List Np.Copy):(Np.apexes l).length<=l.length:=by
 unfold Np.apexes;rw[(Np.Lp _).length_eq]
 have:=Np.Db (l.map (·.zone.apex))
 rwa [List.length_map] at this
theorem aW.around{base n:Nat}{w:World}{v:Value}{ps:List Np.Span}(h:aW base w v ps)(hn:n<=base)(hl:ps.length<=140737488355328):dx fj 2 0 n w v ps:=λM hM=>by
 have h1:aW base (bG w M) v ps:=dS h (λg hg=>lD (λe=>by have:=hM g e;have:=(World.ownsRow.lt h g hg).1;omega));have h2:=h1.slr hl;rwa [gj] at h2
theorem cD.around{base n:Nat}{w:World}{v:Value}{ps:List (List UInt8)}(h:cD base w v ps)(hn:n<=base)(hl:ps.length<=140737488355328)(hs:∀ x∈ps,x.length<=140737488355328):dx RTx 1 0 n w v ps:=λM hM=>by
 have h1:cD base (bG w M) v ps:=dS h (λg hg=>lD (λe=>by have:=hM g e;have:=(World.ownsRow.lt h g hg).1;omega));have h2:=h1.slr hl hs;rwa [gj] at h2
structure WAt(n:Nat)(w:World)(e:List Value)(x:Np.WorldP)(A1:Option Addr)(n1 c1:Nat)(A2:Option Addr)(n2 c2:Nat)(s:ByteArray)(ty lf:Int)(A3:Option Addr)(n3 c3:Nat)(A4:Option Addr)(n4 c4:Nat):Prop where
 val:e = [.slice A1 n1 c1,.slice A2 n2 c2,.string s,.int .i64 ty,.int .i64 lf,.slice A3 n3 c3,.slice A4 n4 c4]
 all:tB w w.heap.size e x
 zones:dx jb 3 0 n w (.slice A2 n2 c2) x.zones
 len:x.zones.length=n2
theorem bpK{n:Nat}{w:World}{e:List Value}{x:Np.WorldP}(h:Df tB 0 n w e x):∃ A1 n1 c1 A2 n2 c2 s ty lf A3 n3 c3 A4 n4 c4,WAt n w e x A1 n1 c1 A2 n2 c2 s ty lf A3 n3 c3 A4 n4 c4:=by
 have h0:=h.all baY;have h0':=h0;obtain⟨hv,zv,s,dv,cU,rfl,_,_,h1,h2,h3,h4⟩:=h0';obtain⟨A1,c1,rfl,_⟩:=ak h1;obtain⟨A2,c2,rfl,_⟩:=ak h2;obtain⟨A3,c3,rfl,_⟩:=ak h3;obtain⟨A4,c4,rfl,_⟩:=ak h4;refine⟨A1,_,c1,A2,_,c2,s,_,_,A3,_,c3,A4,_,c4,rfl,h0,λM hM=>?_,rfl⟩;obtain⟨sL,zv2,s2,dv2,bGY,he,_,_,_,hz,_,_⟩:=h M hM;simp only[List.cons.injEq] at he;rw[he.2.1];exact hz
theorem WAt.keep{n:Nat}{w w':World}{e:List Value}{x:Np.WorldP}{A1:Option Addr}{n1 c1:Nat}{A2:Option Addr}{n2 c2:Nat}{s:ByteArray}{ty lf:Int}{A3:Option Addr}{n3 c3:Nat}{A4:Option Addr}{n4 c4:Nat}(h:WAt n w e x A1 n1 c1 A2 n2 c2 s ty lf A3 n3 c3 A4 n4 c4)(hb:Below w.heap.size w w'):WAt n w' e x A1 n1 c1 A2 n2 c2 s ty lf A3 n3 c3 A4 n4 c4:=
 ⟨h.val,baX _ _ _ _ _ (baK _ _ _ _ _ h.all hb) hb.size,h.zones.keep iT jr hb,h.len⟩
theorem cAt(e:List Value)(h:Np.Hist)(t:Int)(w:World)(hV:j9 w.heap.size w)(k:rt w e h) :
 Calls prog 25 #[.agg e.toArray,.int .i64 t] w λe w'=>∃ A1 n1 c1 A2 n2 c2 s ty lf A3 n3 c3 A4 n4 c4,e = .returned (.tuple #[.agg #[.slice A1 n1 c1,.slice A2 n2 c2,.string s,.int .i64 ty,.int .i64 lf,.slice A3 n3 c3,.slice A4 n4 c4],.int .i64 (Np.atE h t)])/\WAt w.heap.size w' [.slice A1 n1 c1,.slice A2 n2 c2,.string s,.int .i64 ty,.int .i64 lf,.slice A3 n3 c3,.slice A4 n4 c4] (Np.atW h t) A1 n1 c1 A2 n2 c2 s ty lf A3 n3 c3 A4 n4 c4/\Below w.heap.size w w':=
 (YA e h k.use.fewH k.use.big k.use.sets t w hV.rules k.rh).mono λe w' ⟨e',h1,h2,h3⟩=>by
   obtain⟨A1,n1,c1,A2,n2,c2,s,ty,lf,A3,n3,c3,A4,n4,c4,h4⟩:=bpK h2;obtain rfl:=h4.val;exact⟨A1,n1,c1,A2,n2,c2,s,ty,lf,A3,n3,c3,A4,n4,c4,h1,h4,h3⟩
theorem OJ(e:List Value)(h:Np.Hist)(z:ByteArray)(hz:z.size<=140737488355328)(w:World)(hV:j9 w.heap.size w)(k:rt w e h) :
 Calls prog 61 #[.agg e.toArray,.string z] w λe w'=>∃ A n c,e = .returned (.tuple #[.slice A n c,.int .i64 (Np.nR h z.data.toList).1])/\(Np.nR h z.data.toList).2.length=n/\dx oh 8 0 w.heap.size w' (.slice A n c) (Np.nR h z.data.toList).2/\Below w.heap.size w w':=
 (aZY e h k.use.fewH k.sums z hz (k.use.pairs _) w hV.rules hV.pow k.rh).mono λe w' ⟨h1,h2⟩=>by
   rcases h1 with ⟨n1,rfl⟩ | ⟨n1,⟨n2,rfl⟩ | ⟨n2,v',rfl,h3⟩⟩
   ·rw[Np.aZK n1];exact⟨_,_,_,rfl,rfl,dx.nil _ _ _ _,h2⟩
   ·rw[Np.S7 n1 n2];exact⟨_,_,_,rfl,rfl,dx.nil _ _ _ _,h2⟩
   ·rw[Np.S8 n1 n2];obtain⟨A,c,rfl⟩:=h3.form;exact⟨_,_,_,rfl,rfl,h3,h2⟩
theorem IS(e:List Value)(h:Np.Hist)(z:ByteArray)(hz:z.size<=140737488355328)(addr:Int)(w:World)(hV:j9 w.heap.size w)(k:rt w e h) :
 Calls prog 51 #[.agg e.toArray,.string z,.int .i64 addr] w λe w'=>∃ A n c,e = .returned (.tuple #[.slice A n c,.int .i64 (Np.oT h z.data.toList addr).1])/\(Np.oT h z.data.toList addr).2.length=n/\dx fj 2 0 w.heap.size w' (.slice A n c) (Np.oT h z.data.toList addr).2/\Below w.heap.size w w':=
 (bdX e h k.use.fewH z hz addr w hV.rules k.rh).mono λe w' ⟨h1,h2⟩=>by
   rcases h1 with ⟨n1,rfl⟩ | ⟨n1,n2,⟨n3,rfl⟩ | ⟨n3,v',rfl,h3⟩⟩
   ·rw[Np.bhK (λk=>by
     rcases n1 with n1 | n1
     ·exact n1 k.1
     ·rw[k.2] at n1;cases n1)]
    exact⟨_,_,_,rfl,rfl,dx.nil _ _ _ _,h2⟩
   ·rw[Np.C7 ⟨n1,n2⟩,Qb n3];exact⟨_,_,_,rfl,rfl,dx.nil _ _ _ _,h2⟩
   ·rw[Np.C7 ⟨n1,n2⟩,Qc n3];have h4:=h3.around (bQ _) (by have h4:=TH h.copies z.data.toList (Np.lv h.hosts addr);have h5:=k.use.copies;omega);obtain⟨A,c,rfl⟩:=h4.form;exact⟨_,_,_,rfl,rfl,h4,h2⟩
theorem cZon(e:List Value)(h:Np.Hist)(w:World)(hV:j9 w.heap.size w)(k:rt w e h) :
 Calls prog 60 #[.agg e.toArray] w λe w'=>∃ A n c,e = .returned (.tuple #[.slice A n c,.int .i64 (Np.uF h).1])/\(Np.uF h).2.length=n/\dx RTx 1 0 w.heap.size w' (.slice A n c) (Np.uF h).2/\Below w.heap.size w w':=
 (bvZ e h k.use.fewH w hV.rules k.rh).mono λe w' ⟨h1,h2⟩=>by
   rcases h1 with ⟨n1,v',rfl,h3⟩ | ⟨n1,rfl⟩
   ·rw[Np.Us n1];have h4:=h3.around (bQ _) (by have h4:=Yl h.copies;have h5:=k.use.copies;omega) (Yn n1);obtain⟨A,c,rfl⟩:=h4.form;exact⟨_,_,_,rfl,rfl,h4,h2⟩
   ·rw[Np.buK n1];exact⟨_,_,_,rfl,rfl,dx.nil _ _ _ _,h2⟩
namespace Np
end Np
theorem Tt{w:World}{B:Nat}{e:List Value}{h:Np.Hist}(k:ik w B e h):∃ A1 n1 c1 A2 n2 c2 s ty lf A3 n3 c3 A4 n4 c4 dr st,e = [.slice A1 n1 c1,.slice A2 n2 c2,.string s,.int .i64 ty,.int .i64 lf,.slice A3 n3 c3,.slice A4 n4 c4,.int .i64 dr,.int .i64 st]/\h.hosts.length=n1/\h.copies.length=n2/\h.stop=st/\SlR gp 3 w B (.slice A1 n1 c1) h.hosts/\SlR lR 5 w B (.slice A2 n2 c2) h.copies:=by
 obtain⟨hv,cv,s,dv,cU,rfl,_,_,h3,h4,h5,h6⟩:=k;obtain⟨A1,c1,rfl,_⟩:=ak h3;obtain⟨A2,c2,rfl,_⟩:=ak h4;obtain⟨A3,c3,rfl,_⟩:=ak h5;obtain⟨A4,c4,rfl,_⟩:=ak h6;exact⟨A1,_,c1,A2,_,c2,s,_,_,A3,_,c3,A4,_,c4,_,_,rfl,rfl,rfl,rfl,h3,h4⟩
end
section
open Go.ChangeShapes Go.WideShapes Go.ChangeAt Go.RowKit Go.Shelf
theorem adJ:(prog.globals[1]?).map (·.type)=some 368:=by kernel_rfl
theorem aMK:(Rows.laid_internal_strconv_uint64pow10:DataW Unit)=Lib.tabData .u64 Lib.pow10Tab:=by rfl
theorem aXK{W:World}{r:List (String×DataW Unit)}(h:laidMet prog (("internal/strconv.uint64pow10",Rows.laid_internal_strconv_uint64pow10)::r) W):ij W:=by
 rw[aMK] at h;exact Lib.tabIs_of_head Je adJ underlying368 underlying48 (by kernel_rfl) (by kernel_rfl) h
abbrev Sn:List (String×DataW Unit):=[("math/bits.deBruijn32tab",Rows.laid_math_bits_deBruijn32tab),("math/bits.deBruijn64tab",Rows.laid_math_bits_deBruijn64tab),("internal/strconv.uint64pow10",Rows.laid_internal_strconv_uint64pow10),("nameplan/record.rules",Rows.laid_nameplan_record_rules)]
theorem aEZ{W:World}(h:laidMet prog Sn W):j9 W.heap.size W:=by
 have hp:=aXK (laidMet.tail (laidMet.tail h));exact⟨a9Q (laidMet.tail (laidMet.tail (laidMet.tail h))),hp,hp.lt⟩
def IP:DataW Unit->Value
 | .lit (.int k n)=>.int k n
 | .lit (.bool b)=>.bool b
 | .lit (.string s)=>.string ⟨s.toArray⟩
 | _=>undef
def abZ:DataW Unit->List Value
 | .agg m=>m.map IP
 | d=>[IP d]
def Ep:DataW Unit->List Value
 | .agg l=>l.flatMap abZ
 | d=>[IP d]
noncomputable def Fu(os:Os):World:=
 let w0:=World.holding prog os ⟨#[],#[],[]⟩
 let put (h:Array Obj) (g:Nat) (cs:Array Value):Array Obj:=h.modify g fun
  | .cells _ t frozen=>.cells cs t frozen
  | o=>o
 let h5:=put w0.heap 1 (Ep Rows.laid_internal_strconv_uint64pow10).toArray
 let h6:=put h5 3 (Ep Rows.laid_math_bits_deBruijn32tab).toArray
 let h7:=put h6 4 (Ep Rows.laid_math_bits_deBruijn64tab).toArray
 let h8:=put h7 0 (Ep Rows.laid_nameplan_record_rules).toArray
 { w0 with heap:=h8 }
theorem aMJ(os:Os)(args:Array Value):laidMet prog Sn ((Fu os).forCall (λ_ _=>0) ⟨#[],args,[]⟩).memory:=
 laidMet_of_run' 8 (by kernel_rfl) (by kernel_rfl)
end
end Go.Proofs.YtfnopgdcaanaiaaGreatDoor
