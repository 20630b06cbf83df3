/- Parts of the proof. No condition. -/
import Derived.Test.YtfnopgdcaanaiaaGreatDoorV16
import Derived.Test.YtfnopgdcaanaiaaGreatDoorV23
import Derived.Test.YtfnopgdcaanaiaaGreatDoorV24
import Derived.Test.YtfnopgdcaanaiaaGreatDoorV26
import Derived.Test.YtfnopgdcaanaiaaGreatDoorV27
import Derived.Test.YtfnopgdcaanaiaaGreatDoorV28
import Derived.Test.YtfnopgdcaanaiaaGreatDoorV29
set_option linter.all false
set_option maxRecDepth 100000
set_option maxHeartbeats 8000000
namespace Go.Proofs.YtfnopgdcaanaiaaGreatDoor
open Go.Proofs.Tryz
section
open Go.RowKit Go.Shelf Go.MapKept
attribute [local go_sem] Oper.semAt_some CV.cells
def yJ(z:ByteArray):Value->Value
 | .agg xs=>.agg (#[.string z]++xs ++ #[.slice none 0 0,.slice none 0 0])
 | _=>undef
def Cb:Value->Value
 | .tuple xs=>xs.getD 0 undef
 | _=>undef
def EN:Value->Value
 | .tuple xs=>xs.getD 1 undef
 | _=>undef
def gD(g n cap q:Nat)(fA:Option Addr)(fn fc cb:Nat)(xf xt:Int)(e12:Value)(e13:Value)(i:Nat):Value:=[.slice (some ⟨g,0,none⟩) n cap,.int .i64 (q:Nat),.slice (some ⟨g,0,none⟩) n cap,.int .i64 (q:Nat),.pointer (some ⟨g,q * 8,none⟩),.pointer (some ⟨g,q * 8+6,none⟩),.slice fA fn fc,.pointer (some ⟨cb,1,none⟩),.int .i64 xf,.pointer (some ⟨cb,2,none⟩),.int .i64 xt,.agg #[.int .i64 xf,.int .i64 xt],e12,e13,.pointer (some ⟨g,q * 8,none⟩),.pointer (some ⟨g,q * 8+6,none⟩),undef].getD i undef
def jI(i:Nat):Nat:=[62,63,64,65,66,67,68,69,70,71,72,73,74,75,76,77,0].getD i 0
def aeZ:List Nat:=[0,1,2,3,4,5,6,7,8,9,10,11,14,15,12,13].map jI
theorem oS:∀ i∈[0,1,2,3,4,5,6,7,8,9,10,11,14,15,12,13],jI i<101/\jI i∈aeZ:=by decide
theorem qQ:∀ i∈[0,1,2,3,4,5,6,7,8,9,10,11,14,15,12,13],∀ j∈[0,1,2,3,4,5,6,7,8,9,10,11,14,15,12,13],j≠i->jI i≠jI j:=by decide
def kV(oA:Option Addr)(m oc:Nat)(z ss:ByteArray)(sty slf:Int)(dA:Option Addr)(dn dc:Nat)(gA:Option Addr)(gn gc:Nat)(e3:Value)(e5:Value)(e6:Value)(i:Nat):Value:=[.slice oA m oc,.string z,.agg #[.string ss,.int .i64 sty,.int .i64 slf,.slice dA dn dc,.slice gA gn gc],e3,yJ z e3,e5,e6,undef].getD i undef
def mR(i:Nat):Nat:=[52,53,54,55,56,57,58,0].getD i 0
def adY:List Nat:=[0,1,2,4,3,5,6].map mR
theorem uh:∀ i∈[0,1,2,4,3,5,6],mR i<101/\mR i∈adY:=by decide
theorem ww:∀ i∈[0,1,2,4,3,5,6],∀ j∈[0,1,2,4,3,5,6],j≠i->mR i≠mR j:=by decide
def oU(g n cap q:Nat)(fA:Option Addr)(fn fc:Nat)(e7:Value)(i:Nat):Value:=[.slice (some ⟨g,0,none⟩) n cap,.int .i64 (q:Nat),.slice (some ⟨g,0,none⟩) n cap,.int .i64 (q:Nat),.pointer (some ⟨g,q * 8,none⟩),.pointer (some ⟨g,q * 8+6,none⟩),.slice fA fn fc,e7,e7,Cb e7,EN e7,.pointer (some ⟨g,q * 8,none⟩),.pointer (some ⟨g,q * 8+6,none⟩),undef].getD i undef
def oT(i:Nat):Nat:=[87,88,89,90,91,92,93,94,86,95,96,97,98,0].getD i 0
def aeJ:List Nat:=[0,1,2,3,4,5,6,8,9,10,11,12,7].map oT
theorem EL:∀ i∈[0,1,2,3,4,5,6,8,9,10,11,12,7],oT i<101/\oT i∈aeJ:=by decide
theorem EM:∀ i∈[0,1,2,3,4,5,6,8,9,10,11,12,7],∀ j∈[0,1,2,3,4,5,6,8,9,10,11,12,7],j≠i->oT i≠oT j:=by decide
def psP(PP:List (Np.Span×Np.Signed))(sp:Np.Span)(sets:List Np.Signed)(j:Nat):List (Np.Span×Np.Signed):=PP++(sets.take j).map λs=>(sp,s)
theorem adX(PP:List (Np.Span×Np.Signed))(sp:Np.Span)(sets:List Np.Signed):psP PP sp sets 0=PP:=by simp[psP]
theorem adQ{PP:List (Np.Span×Np.Signed)}{sp:Np.Span}{sets:List Np.Signed}{j:Nat}(h:sets.length=j):psP PP sp sets j=PP++sets.map λs=>(sp,s):=by unfold psP;rw[kQ (by omega)]
theorem adK{PP:List (Np.Span×Np.Signed)}{sp:Np.Span}{sets:List Np.Signed}{j:Nat}{x:Np.Signed}(h:sets[j]?=some x):psP PP sp sets (j+1)=psP PP sp sets j ++ [(sp,x)]:=by
 obtain⟨hl,he⟩:=cQ.1 h;unfold psP;rw[fQ hl,he,List.map_append,List.append_assoc];rfl
theorem adJ{PP:List (Np.Span×Np.Signed)}{sp:Np.Span}{sets:List Np.Signed}{j:Nat}{p:Np.Span×Np.Signed}(h:p∈psP PP sp sets j):p∈PP++sets.map λs=>(sp,s):=by
 rcases List.mem_append.1 h with h | h
 ·exact List.mem_append.2 (.inl h)
 ·obtain⟨s,hs,rfl⟩:=List.mem_map.1 h;exact List.mem_append.2 (.inr (List.mem_map.2 ⟨s,List.mem_of_mem_take hs,rfl⟩))
theorem adZ(PP:List (Np.Span×Np.Signed))(sp:Np.Span)(sets:List Np.Signed)(j:Nat):(psP PP sp sets j).length<=(PP++sets.map λs=>(sp,s)).length:=by
 unfold psP;simp only[List.length_append,List.length_map,List.length_take];omega
theorem acJ{a b:List (CV×Np.Copy)}(h:a <+: b):∃ c,((b.map (·.2)).flatMap Np.nO)=((a.map (·.2)).flatMap Np.nO)++c:=by
 obtain⟨c,rfl⟩:=h;exact⟨(c.map (·.2)).flatMap Np.nO,by rw[List.map_append,List.flatMap_append]⟩
def C9(w6:World)(bo bt bm:Nat)(zn:ByteArray)(pre:List (CV×Np.Copy))(S:Nat->Prop)(W:World):Prop:=
 ∃ (xs:List PT) (ov:Value) (M:Nat->Prop),S bo/\S bt/\S bm/\(∀ k,td xs ov k->S k)/\(∀ k,S k->k=bo\/k=bt\/k=bm\/w6.heap.size<=k)/\(∀ k,¬ S k->M k)/\M bo/\M bt/\M bm/\
   Boxed W bo 52 ov/\Boxed W bt 4 (.bool (!pre.isEmpty))/\dT bm (Np.nL (xs.map (·.1))) W/\PubR w6.heap.size M zn xs ov W/\xs.map (λx=>(x.1,x.2.1))=Np.eH ((pre.map (·.2)).flatMap Np.nO)/\RdStep (λk=>k=bo\/k=bt\/k=bm) w6 W
theorem Qe(w6:World)(bo bt bm:Nat)(zn:ByteArray):fm w6.heap.size (C9 w6 bo bt bm zn):=by
 rintro pre S W W' ⟨xs,ov,M,h1,h2,h3,h4,h5,h6,m1,m2,m3,h7,h8,h9,yb,Hn,tq⟩ az;refine⟨xs,ov,M,h1,h2,h3,h4,h5,h6,m1,m2,m3,g9 h7 az h1,g9 h8 az h2,h9.stays (az.keep bm h9.lt (.inr h3)),?_,Hn,⟨az.os.trans tq.os,az.tape.trans tq.tape,az.output.trans tq.output,yQ tq.size az.size,λk hk IN=>(az.keep k (lQ hk tq.size) (.inl hk)).trans (tq.keep k hk IN)⟩⟩;exact yb.leaves ⟨az.os,az.tape,az.output,az.size,λi hi hm=>⟨hm,az.keep i hi (.inr (Classical.byContradiction λhs=>hm (h6 i hs)))⟩⟩ (λg hg=>⟨az.keep g (yb.lt hg).2.1 (.inr (h4 g hg)),(yb.lt hg).2.2⟩)
theorem aeX{w6:World}{bo bt bm:Nat}{zn:ByteArray}{pre:List (CV×Np.Copy)}{S:Nat->Prop}{W W':World}(h:C9 w6 bo bt bm zn pre S W)(hb:Below W.heap.size W W'):C9 w6 bo bt bm zn pre S W':=by
 obtain⟨xs,ov,M,h1,h2,h3,h4,h5,h6,m1,m2,m3,h7,h8,h9,yb,Hn,tq⟩:=h;exact⟨xs,ov,M,h1,h2,h3,h4,h5,h6,m1,m2,m3,bT h7 hb h7.lt,bT h8 hb h8.lt,h9.keep hb h9.lt,yb.keep hb,Hn,tq.then_below hb⟩
theorem MI{w:World}{B:Nat}{L:List (CV×Np.Copy)}(h:∀ x∈L,CVOf w B x.1 x.2)(z:List UInt8):((L.filter λx=>x.1.str.data.toList == z).map (·.2)).flatMap Np.nO=Np.cL (L.map (·.2)) z:=by
 unfold Np.cL Np.tm;congr 1
 induction L with
 | nil=>rfl
 | cons x L ih=>
  have hx:=h x (by simp);have ih:=ih (λy hy=>h y (mQ _ hy));rw[List.map_cons,List.filter_cons,List.filter_cons,hx.apex];split
  ·rw[List.map_cons,ih]
  ·exact ih
theorem afY(e:List Value)(h:Np.Hist)(hf:Np.xb h)(O1:Np.nc h)(z:ByteArray)(hz:z.size<=140737488355328)(hp:(Np.cL h.copies z.data.toList).length<=5000)(w:World)(hR:iv w w.heap.size)(hP:iL w)(hh:fM w w.heap.size e h) :
 Calls prog 61 #[.agg e.toArray,.string z] w λe w'=>((¬ Np.uY h z.data.toList/\e = .returned (.tuple #[.slice none 0 0,.int .i64 1]))\/(Np.uY h z.data.toList/\((¬ Np.xP h z.data.toList/\e = .returned (.tuple #[.slice none 0 0,.int .i64 4]))\/(Np.xP h z.data.toList/\∃ v',e = .returned (.tuple #[v',.int .i64 0])/\gX cM 8 0 w.heap.size w' v' (Np.pub h.copies z.data.toList)))))/\Below w.heap.size w w':=by
 have GD:=jq hh;obtain⟨hv,cv,s,dv,dx,rfl,bh,cJ,h3,h4,h5,h6⟩:=hh;obtain⟨ty,fB⟩:=aJZ h.anchor.type;obtain⟨life,D9⟩:=aJZ h.anchor.life;obtain⟨drift,NY⟩:=aJZ h.drift;obtain⟨stop,lY⟩:=aJZ h.stop;have H3:=jq h3;have H4:=jq h4;have H5:=jq h5;have H6:=jq h6;have HS:=jq (And.intro bh cJ);have ph:=jq hf;have ck:=jq lY;have jS:=jq (And.intro fB D9);obtain⟨A1,c1,rfl,_,_⟩:=aj h3;obtain⟨A2,c2,rfl,_,_⟩:=aj h4;obtain⟨A3,c3,rfl,_,_⟩:=aj h5;obtain⟨A4,c4,rfl,_,_⟩:=aj h6;clear h3 h4 h5 h6 bh cJ hf;obtain⟨n1,bK⟩:=aJZ h.hosts.length;obtain⟨n2,bY⟩:=aJZ h.copies.length;obtain⟨n3,dF⟩:=aJZ h.anchor.data.length;obtain⟨n4,dY⟩:=aJZ h.hints.length;rw[bK] at H3;rw[bY] at H4;rw[dF] at H5;rw[dY] at H6;rw[bK,bY,dF,dY,fB,D9,NY,lY] at GD |-;have li:=jq bY;clear bK bY dF dY fB D9 NY lY;obtain⟨r,hr⟩:=aJZ (Np.yes (Np.VHist h));have pp:=jq hr;clear hr;obtain⟨X,hX⟩:=aJZ w.heap.size;obtain⟨W1,an⟩:=aJZ ((((w.alloc (.cells #[.slice A1 n1 c1,.slice A2 n2 c2,.string s,.int .i64 ty,.int .i64 life,.slice A3 n3 c3,.slice A4 n4 c4,.int .i64 drift,.int .i64 stop] 29)).alloc (.cells #[.string z] 9)).alloc (.cells #[.slice none 0 0] 52)).alloc (.cells #[.int .i64 0] 37));have aB:Below w.heap.size w W1:=by rw[<-an];exact ((((vQ _ _).alloc (bQ _) _).alloc (by simp <;> omega) _).alloc (by simp <;> omega) _).alloc (by simp <;> omega) _
 have jF:W1.heap.size=X+4:=by rw[<-an,<-hX];simp
 have k0:W1.cell? ⟨X,0,none⟩=some (.slice A1 n1 c1):=by rw[<-an,<-hX];simp[go_sem]
 have k1:W1.cell? ⟨X,1,none⟩=some (.slice A2 n2 c2):=by rw[<-an,<-hX];simp[go_sem]
 have k2:W1.cell? ⟨X,2,none⟩=some (.string s):=by rw[<-an,<-hX];simp[go_sem]
 have k3:W1.cell? ⟨X,3,none⟩=some (.int .i64 ty):=by rw[<-an,<-hX];simp[go_sem]
 have k4:W1.cell? ⟨X,4,none⟩=some (.int .i64 life):=by rw[<-an,<-hX];simp[go_sem]
 have k5:W1.cell? ⟨X,5,none⟩=some (.slice A3 n3 c3):=by rw[<-an,<-hX];simp[go_sem]
 have k6:W1.cell? ⟨X,6,none⟩=some (.slice A4 n4 c4):=by rw[<-an,<-hX];simp[go_sem]
 have k7:W1.cell? ⟨X,7,none⟩=some (.int .i64 drift):=by rw[<-an,<-hX];simp[go_sem]
 have k8:W1.cell? ⟨X,8,none⟩=some (.int .i64 stop):=by rw[<-an,<-hX];simp[go_sem]
 have kz:W1.cell? ⟨X+1,0,none⟩=some (.string z):=by rw[<-an,<-hX];simp[go_sem]
 have HO:Hid (Boxed W1 (X+1+1) 52 (.slice none 0 0)):=jq (by
  rw[<-an,<-hX]
  have:=(Boxed.new ((w.alloc (.cells #[.slice A1 n1 c1,.slice A2 n2 c2,.string s,.int .i64 ty,.int .i64 life,.slice A3 n3 c3,.slice A4 n4 c4,.int .i64 drift,.int .i64 stop] 29)).alloc (.cells #[.string z] 9)) 52 (.slice none 0 0)).alloc (.cells #[.int .i64 0] 37)
  simpa using this)
 have HE:Hid (Boxed W1 (X+1+1+1) 37 (.int .i64 0)):=jq (by
  rw[<-an,<-hX]
  have:=Boxed.new (((w.alloc (.cells #[.slice A1 n1 c1,.slice A2 n2 c2,.string s,.int .i64 ty,.int .i64 life,.slice A3 n3 c3,.slice A4 n4 c4,.int .i64 drift,.int .i64 stop] 29)).alloc (.cells #[.string z] 9)).alloc (.cells #[.slice none 0 0] 52)) 37 (.int .i64 0)
  simpa using this)
 have jw:=jq hR;have od:=jq hP;have zH:=jq O1;have jR:=jq hp;have ri:Hid (1<w.heap.size):=jq hP.lt;rw[hX] at aB H3 H4 H5 H6 GD jw ri |-;have aO:=jq aB;clear aB hR hP O1 hp;refine (callsIn_wide (n:=0)).1 ?_;refine callsIn_of_wp_marks func61 rfl trivial ?_ rfl;simp only[ntmps61,List.size_toArray,List.length_cons,List.length_nil,Nat.reduceAdd,Nat.reduceSub,Array.replicate_succ,Array.replicate_zero,List.push_toArray,List.append_toArray,List.nil_append,List.cons_append];gi_wp2_with fail;refine⟨trivial,rfl,?_⟩;refine (callsIn_wide.2 (Xx _ h ph.out W1 ((jw.out.keep aO.out).more (by omega)) (nP _ _ _ _ _ (l9 _ _ _ _ _ GD.out aO.out) (by omega)))).mono ?_;rw[pp.out];rintro e w2 ⟨rfl,ac⟩;have aN:=ac.size;have m0:=aIZ ac k0;have m1:=aIZ ac k1;have m2:=aIZ ac k2;have m3:=aIZ ac k3;have m4:=aIZ ac k4;have m5:=aIZ ac k5;have m6:=aIZ ac k6;have m7:=aIZ ac k7;have m8:=aIZ ac k8;have mz:=aIZ ac kz;have db:=jq (aMY HO.out ac);have qc:=jq (aMY HE.out ac);have ah:=aIX aO ac;clear ac an hX k0 k1 k2 k3 k4 k5 k6 k7 k8 kz
 cases r with
 | false=>
  have HN:Hid (¬ Np.VHist h):=jq (λh=>by have:=Np.cu h;rw[pp.out] at this;cases this);have y0:=db.out.cell;have y1:=db.out.frozen;have z0:=qc.out.cell;have z1:=qc.out.frozen;gi_wp2_with fail;refine⟨trivial,?_⟩;gi_wp2_with fail;obtain⟨W,hW⟩:=aJZ ((w2.setCell ⟨X+1+1,0,none⟩ (.slice none 0 0)).setCell ⟨X+1+1+1,0,none⟩ (.int .i64 1));have FD:Hid (Below X w W):=jq (by rw[<-hW];exact ((ah.out.setCell (p:=⟨X+1+1,0,none⟩) (by dsimp only;omega) _).setCell (p:=⟨X+1+1+1,0,none⟩) (by dsimp only;omega) _));have e0:W.cell? ⟨X+1+1,0,none⟩=some (.slice none 0 0):=by rw[<-hW];simp[go_sem,y0]
  have e1:W.cell? ⟨X+1+1+1,0,none⟩=some (.int .i64 1):=by rw[<-hW];simp[go_sem,z0]
  rw[hW];exact nl (v:=.tuple #[.slice none 0 0,.int .i64 1]) (by simp[results,results61,go_sem,e0,e1]) ⟨.inl ⟨λh=>HN.out h.1,rfl⟩,FD.out⟩
 | true=>
  have HV:Hid (Np.VHist h):=jq (Np.f8.1 pp.out);gi_wp2_with fail;refine⟨trivial,rfl,?_⟩;refine (callsIn_wide.2 (nameValid_any z hz _)).mono ?_;rintro e w3 ⟨rfl,ak⟩;have gV:=ak.size;replace m0:=aIZ ak m0;replace m1:=aIZ ak m1;replace m2:=aIZ ak m2;replace m3:=aIZ ak m3;replace m4:=aIZ ak m4;replace m5:=aIZ ak m5;replace m6:=aIZ ak m6;replace m7:=aIZ ak m7;replace m8:=aIZ ak m8;replace mz:=aIZ ak mz;have iq:=jq (aMY db.out ak);have FM:=jq (aMY qc.out ak);have aA:=aIX ah ak;clear ak
  cases eO:Np.aG z.data.toList with
  | false=>
   have jT:=jq eO;clear eO;have y0:=iq.out.cell;have y1:=iq.out.frozen;have z0:=FM.out.cell;have z1:=FM.out.frozen;gi_wp2_with fail;obtain⟨W,hW⟩:=aJZ ((w3.setCell ⟨X+1+1,0,none⟩ (.slice none 0 0)).setCell ⟨X+1+1+1,0,none⟩ (.int .i64 1));have FD:Hid (Below X w W):=jq (by rw[<-hW];exact ((aA.out.setCell (p:=⟨X+1+1,0,none⟩) (by dsimp only;omega) _).setCell (p:=⟨X+1+1+1,0,none⟩) (by dsimp only;omega) _));have e0:W.cell? ⟨X+1+1,0,none⟩=some (.slice none 0 0):=by rw[<-hW];simp[go_sem,y0]
   have e1:W.cell? ⟨X+1+1+1,0,none⟩=some (.int .i64 1):=by rw[<-hW];simp[go_sem,z0]
   rw[hW];exact nl (v:=.tuple #[.slice none 0 0,.int .i64 1]) (by simp[results,results61,go_sem,e0,e1]) ⟨.inl ⟨λh=>absurd h.2 (by rw[jT.out];simp),rfl⟩,FD.out⟩
  | true=>
   have jT:=jq eO;have bG:Hid (Np.uY h z.data.toList):=jq ⟨HV.out,eO⟩;clear eO;have hX4:X+4<=w3.heap.size:=by omega
   have vS:∀ (w:World),(Instr.makeMap 213 none).run prog w = .ok (.map (some w.heap.size)) (w.alloc (.map #[] 0)):=λw=>by
    simp[Instr.makeMap,Result.andThen]
   obtain⟨Bh,Ar⟩:=aJZ w3.heap.size;obtain⟨w4,cg⟩:=aJZ ((((w3.alloc (.cells #[.slice none 0 0] 52)).alloc (.cells #[.bool false] 4)).alloc (.map #[] 0)).alloc (.cells #[.map (some (Bh+1+1))] 213));have ar:Below w3.heap.size w3 w4:=by rw[<-cg];exact ((((vQ _ _).alloc (bQ _) _).alloc (by simp) _).alloc (by simp <;> omega) _).alloc (by simp <;> omega) _
   have jm:w4.heap.size=Bh+4:=by rw[<-cg,<-Ar];simp
   have v0:=aIZ ar m0;have v1:=aIZ ar m1;have v2:=aIZ ar m2;have v3:=aIZ ar m3;have v4:=aIZ ar m4;have v5:=aIZ ar m5;have v6:=aIZ ar m6;have v7:=aIZ ar m7;have v8:=aIZ ar m8;have vz:=aIZ ar mz;have uN:=jq (aMY iq.out ar);have Sz:=jq (aMY FM.out ar);have b7:=aIX aA ar;have R9:Hid (Boxed w4 Bh 52 (.slice none 0 0)):=jq (by
    rw[<-cg,<-Ar];exact (((Boxed.new w3 52 (.slice none 0 0)).alloc _).alloc _).alloc _)
   have Sb:Hid (Boxed w4 (Bh+1) 4 (.bool false)):=jq (by
    rw[<-cg,<-Ar]
    have:=((Boxed.new (w3.alloc (.cells #[.slice none 0 0] 52)) 4 (.bool false)).alloc (.map #[] 0)).alloc (.cells #[.map (some (w3.heap.size+1+1))] 213)
    simpa using this)
   have R5:Hid (dT (Bh+1+1) [] w4):=jq (by
    rw[<-cg,<-Ar]
    have:=(dT.made ((w3.alloc (.cells #[.slice none 0 0] 52)).alloc (.cells #[.bool false] 4))).stays (w':=((((w3.alloc (.cells #[.slice none 0 0] 52)).alloc (.cells #[.bool false] 4)).alloc (.map #[] 0)).alloc (.cells #[.map (some (w3.heap.size+1+1))] 213))) (Below.heap_alloc _ _ _ (by simp))
    simpa using this)
   have Sf:Hid (Boxed w4 (Bh+1+1+1) 213 (.map (some (Bh+1+1)))):=jq (by
    rw[<-cg,<-Ar]
    have:=Boxed.new (((w3.alloc (.cells #[.slice none 0 0] 52)).alloc (.cells #[.bool false] 4)).alloc (.map #[] 0)) 213 (.map (some (w3.heap.size+1+1)))
    simpa using this)
   clear m0 m1 m2 m3 m4 m5 m6 m7 m8 mz;gi_wp2_with fail;clear vS ar;refine⟨trivial,rfl,?_⟩;refine (callsIn_wide.2 (Vi _ _ _ _ _ _ _ _ _ 138 #[.pointer (some ⟨X+1,0,none⟩)] w4)).mono ?_;rintro e w6 ⟨rfl,ef⟩;have kf:w6.heap.size=Bh+6:=by rw[ef];simp;omega
   have aL:Below w4.heap.size w4 w6:=by rw[ef];exact ((vQ _ _).alloc (bQ _) _).alloc (by simp) _
   have kX:w6.cell? ⟨Bh+4,1,none⟩=some (.slice A2 n2 c2):=by rw[ef,<-jm];simp[go_sem]
   have kO:w6.cell? ⟨Bh+4+1,0,none⟩=some (.func (.func 138) #[] #[.pointer (some ⟨X+1,0,none⟩)]):=by rw[ef,show Bh+4+1=w4.heap.size+1 by omega];simp[go_sem]
   rw[jm];obtain⟨L,mC,vu,Hx⟩:=Vv (H4.out.keep l7 (b7.out.trans (aL.aKZ)));have zl:=jq (aIZ aL vz);have CQ:=jq (Vj L (λx=>x.1.str.data.toList == z.data.toList) 138 #[.pointer (some ⟨X+1,0,none⟩)] (Bh+4) (Bh+4+1) n2 c2 (λk=>k<w6.heap.size/\¬ (k=Bh\/k=Bh+1\/k=Bh+1+1)) A2 w6 ⟨by omega,by omega⟩ ⟨by omega,by omega⟩ kX kO vu (by have:=ph.out.1;have:=li.out;omega)
    (λi x hx=>by
      obtain⟨_,b,o,h1,h2,h3⟩:=Hx i x hx;exact⟨b,o,h1,⟨by omega,by omega⟩,h3⟩) VI
    (λx hx W hW=>by
      have h1:=(hW.cell (p:=⟨X+1,0,none⟩) ⟨by dsimp only;omega,by dsimp only;omega⟩).trans zl.out
      have:=hW.1
      exact aeQ x.1.host x.1.frm x.1.til x.1.str _ x.1.A x.1.n x.1.c rfl (X+1) z W (by omega) h1))
   have xC:=jq (aMY uN.out aL);have SA:=jq (aMY Sz.out aL);have Sa:=jq (aMY R9.out aL);have Sc:=jq (aMY Sb.out aL);have R6:Hid (dT (Bh+1+1) [] w6):=jq (R5.out.keep aL (by omega));have Sg:=jq (aMY Sf.out aL);have dj:=aIX b7 aL;have rk:=jq mC;have pj:Hid (∀ x∈L,CVOf w6 X x.1 x.2):=jq (λx hx=>by obtain⟨i,hi⟩:=List.mem_iff_getElem?.1 hx;exact (Hx i x hi).1);clear aL ef cg kX kO mC Hx v0 v1 v2 v3 v4 v5 v6 v7 v8 vz;have HZ6:=jq kf;gi_wp2_with fail;refine RD (Dr:=λk=>k<w6.heap.size/\¬ (k=Bh\/k=Bh+1\/k=Bh+1+1)) (w0:=w6) (first:=#[]) (captured:=#[.pointer (some ⟨Bh+4,0,none⟩),.pointer (some ⟨Bh+4+1,0,none⟩)]) (gf:=141) rfl VF (mk:=λy=>#[y,.pointer (some ⟨Bh+4,0,none⟩),.pointer (some ⟨Bh+4+1,0,none⟩)]) (λ_=>rfl)
    CQ.out (fL.refl λk e=>e.1) (λ_=>rfl) (C9 w6 Bh (Bh+1) (Bh+1+1) z) (λ_ _ _ _=>False)
    (Qe _ _ _ _ _) (λc s S W W' h _=>h)
    (λk=>k=Bh\/k=Bh+1\/k=Bh+1+1) (λk h1 h2=>h2.2 h1) (by intro k h;omega)
    ⟨[],.slice none 0 0,λk=>k=Bh\/k=Bh+1\/k=Bh+1+1\/¬ (k=Bh\/k=Bh+1\/k=Bh+1+1),.inl rfl,.inr (.inl rfl),.inr (.inr rfl),(λk e=>by rcases e with e | ⟨x,hx,_⟩;cases e;cases hx),(λk e=>by omega),(λk e=>.inr (.inr (.inr e))),.inl rfl,.inr (.inl rfl),.inr (.inr (.inl rfl)),Sa.out,Sc.out,R6.out,PubR.nil _ _ _ _,rfl,RdStep.refl _ _⟩ ?round ?done ?stop
   case stop=>
    rintro D c pre S W hD ft aV iV h hK;exact h.elim
   case done=>
    rintro D S W hD ft aV ⟨us,ov,M,DL,AE,DK,hown,AD,AB,mbo,mbt,mbm,eN,rG,tv,ye,yr,aF⟩ hK;obtain⟨te,Jd⟩:=aJZ ((L.filter λx=>x.1.str.data.toList == z.data.toList).isEmpty);have K8:Hid (Np.xP h z.data.toList↔te=false):=jq (by
     rw[<-Jd,List.isEmpty_eq_false_iff_exists_mem];constructor
     ·rintro⟨c,hc,hz⟩;rw[<-rk.out] at hc;obtain⟨x,hx,rfl⟩:=List.mem_map.1 hc;exact⟨x,List.mem_filter.2 ⟨hx,by rw[(pj.out x hx).apex,hz];simp⟩⟩
     ·rintro⟨x,hx⟩;obtain⟨h1,h2⟩:=List.mem_filter.1 hx;refine⟨x.2,by rw[<-rk.out];exact List.mem_map.2 ⟨x,h1,rfl⟩,?_⟩;rw[<-(pj.out x h1).apex];simpa using h2)
    rw[Jd] at rG;have lJ:Hid (us.map (λx=>(x.1,x.2.1))=Np.eH (Np.cL h.copies z.data.toList)):=jq (by rw[yr,MI pj.out,rk.out]);have AG:=aF.size;have KX:Hid (D<W.heap.size):=jq (eQ.1 hK).1;have yc:Below X w6 W:=aF.below (by omega) (λk e=>by omega);have KT:Hid (Below X w W):=aIX dj yc;have iH:Hid (Boxed W (X+1+1) 52 (.slice none 0 0)):=jq ((aF.keep (X+1+1) (by omega) (by omega)).trans xC.out);have FR:Hid (Boxed W (X+1+1+1) 37 (.int .i64 0)):=jq ((aF.keep (X+1+1+1) (by omega) (by omega)).trans SA.out);have Fv:=jq eN;have xL:=jq ft;have er:=jq AD;have Lk:=jq hK;have xF:=jq (PubK.start ye AB hown);have t0:=rG.cell;clear Jd yr aF yc eN rG tv ye AB hown AD ft hK mbo mbt mbm DL AE DK aV;have DO:X+1+1≠D:=by omega
    have DF:X+1+1+1≠D:=by omega
    cases te with
    | true=>
     simp only[Bool.not_true] at t0;have o0:=iH.out.cell;have o1:=iH.out.frozen;have q0:=FR.out.cell;have q1:=FR.out.frozen;gi_wp2_with fail;obtain⟨W',hW'⟩:=aJZ ((W.setCell ⟨X+1+1,0,none⟩ (.slice none 0 0)).setCell ⟨X+1+1+1,0,none⟩ (.int .i64 4));have Eu:W'.heap.size=W.heap.size:=by rw[<-hW'];simp
     have D8:∀ k,k≠X+1+1->k≠X+1+1+1->W'.heap[k]?=W.heap[k]?:=λk h1 h2=>by rw[<-hW'];exact (wQ _ _ _ k h2).trans (wQ _ _ _ k h1)
     have Hq:Below X w W':=by rw[<-hW'];exact ((KT.out.setCell (p:=⟨X+1+1,0,none⟩) (by dsimp only;omega) _).setCell (p:=⟨X+1+1+1,0,none⟩) (by dsimp only;omega) _)
     have tP:W'.os=W.os/\W'.tape=W.tape/\W'.output=W.output:=by rw[<-hW'];simp[World.setCell]
     have Hw:W'.heap[D]?=some (.deferred (some [])):=(D8 D (Ne.symm DO) (Ne.symm DF)).trans Lk.out;have e0:W'.cell? ⟨X+1+1,0,none⟩=some (.slice none 0 0):=by rw[<-hW'];simp[go_sem,o0]
     have e1:W'.cell? ⟨X+1+1+1,0,none⟩=some (.int .i64 4):=by rw[<-hW'];simp[go_sem,q0]
     have f0:=(iQ (w:=W') (w':=W'.putObj D (.deferred none)) (a:=⟨X+1+1,0,none⟩) (zQ DO)).trans e0;have f1:=(iQ (w:=W') (w':=W'.putObj D (.deferred none)) (a:=⟨X+1+1+1,0,none⟩) (zQ DF)).trans e1;rw[hW'];refine oC Hw (v:=.tuple #[.slice none 0 0,.int .i64 4]) (by simp[results,results61,go_sem,f0,f1]) ⟨.inr ⟨bG.out,.inl ⟨(λh=>by have:=K8.out.1 h;cases this),rfl⟩⟩,oz Hq (by omega) _⟩
    | false=>
     simp only[Bool.not_false] at t0;obtain⟨n,hn⟩:=aJZ us.length;obtain⟨oA,oc,rfl⟩:=xF.out.rows.row.formN hn;have Lv:=jq hn;have b0:=Fv.out.cell;obtain⟨PS,DI⟩:=aJZ (Np.cL h.copies z.data.toList);have rn:=jq DI;rw[DI] at lJ;have Lp:Hid ((Np.eH PS).length=n):=jq (by rw[<-lJ.out,List.length_map];exact hn);have IV:n<=5000:=by rw[<-hn];have h1:=PJ lJ.out;have h2:=jR.out;rw[DI] at h2;omega
     clear hn DI;gi_wp2_with fail;gi_loopw [83] (λI wr=>∃ (i:Nat) (us':List PT) (ov':Value) (M':Nat->Prop),i<=n/\I = .int .i64 i/\W.heap.size<=wr.heap.size/\Hid (us'.length=n)/\Hid (Boxed wr Bh 52 ov')/\Hid (PubK S W w6.heap.size z M' us' ov' wr)/\Hid (us'.map (λx=>(x.1,x.2.1))=qL (Np.eH PS) i)) (λI _=>n - (intOf I).toNat)
     case atStart=>exact⟨0,us,_,_,jQ _,rfl,bQ _,Lv,Fv,xF,jq (by rw[Z7];exact lJ.out)⟩
     case round=>
      clear Fv xF lJ Lv b0 t0;obtain⟨i,us',ov',M',hi,rfl,Pi,xB,xm,gZ,Gf⟩:=hrel;by_cases aa:i<n
      ·obtain⟨g,cap,rfl,dO,IF,pG⟩:=gZ.out.rows.row.formSome xB.out (by omega);have Lc:Hid (i<(Np.eH PS).length):=jq (by rw[Lp.out];exact aa);obtain⟨⟨xs,xt,xv⟩,hx,hl⟩:=PV Gf.out Lc.out;dsimp only at hl;have En:=Np.PK hl;have tO:aw w6.heap.size wr xv xt:=gZ.out.rows.fresh _ (gQ hx);have xr:Hid (SlR bA 2 wr wr.heap.size xv xt):=jq (tO.slr (by have h1:=Np.Ke PS xs;rw[<-En] at h1;have h2:=jR.out;rw[rn.out] at h2;omega));have TV:Hid (∀ s∈xt,Np.zU s):=jq (λs hs=>Np.afJ (h:=h) (zone:=z.data.toList) (s:=xs) (by rw[rn.out,<-En];exact hs) HV.out);have T6:Hid (xt.length<=20000):=jq (by have h1:=Np.Ke PS xs;rw[<-En] at h1;have h2:=jR.out;rw[rn.out] at h2;omega);have HX:=jq hx;obtain⟨fA,fc,rfl⟩:=aw.form tO;have f6:wr.cell? ⟨g,i * 8+6,none⟩=some (.slice fA xt.length fc):=ID gZ.out.rows.row hx;obtain⟨fn,ed⟩:=aJZ xt.length;rw[ed] at f6 HX xr;have b6:=xm.out.cell;have ke:(0:Int)<=(i:Int):=by omega
       have gL:(i:Int)<(n:Int):=by omega
       clear hx hl En tO ed pG;gi_wp2_with fail;refine Ff λa0 br=>?_;have kp:=jq br;have fF:=jq (show a0.eval (.tmp 6) = .pointer (some ⟨Bh,0,none⟩) by rw[br];rfl);have KA:=jq (show a0.eval (.tmp 15) = .int .i64 (i:Nat) by rw[br];rfl);have HM:=jq (show a0.tmps.size=101 by rw[br];rfl);clear br;refine wpIn_wide.2 (wp_region_any (by kernel_rfl) ?_);refine gM 7 (D:=[0,1,2,3,4,5,6,11,12]) (val:=oU g n cap i fA fn fc undef) EL EM (tx HM.out) (by kernel_rfl) ?_ ?_
       ·intro i aU bd o ho a' hb aM;have k6':=aLY hb fF.out;have k15':=aLY hb KA.out;simp[Act.eval] at k6' k15'
        repeat' (rcases aU with _ | ⟨_,aU⟩)
        all_goals first
         | (exfalso;simp at bd;done)
         | (cases ho
            try simp[Act.eval,Region.binds,oU,oT] at aM
            refine gE (by simp[Region.wanted]) ?_;simp[Oper.quietAt,Oper.quietUpon,execOp,go_sem,oU,k6',k15',b6,f6,ke,gL,Cb,EN,aM])
       ·intro f listed a' hH hr hv;have av6:=hv 6;simp[Act.eval,oU,oT] at av6;simp only[wpOp];simp[Region.wanted];refine .inl ?_;simp[Oper.wp,go_sem,av6];refine (PR _ xt T6.out TV.out wr.drew (xr.out.keep bE (vQ wr.heap.size wr).drew)).mono ?_;rintro e wC ⟨v2,rfl,fw,AP⟩;have eu:Below wr.heap.size wr wC:=(vQ wr.heap.size wr).drew.trans AP;have Pf:=eu.size;replace b6:=aIZ eu b6;replace f6:=aIZ eu f6;have vJ:=(World.frozen?_of_block (a:=⟨g,i * 8+6,none⟩) (eu.block g (by omega))).trans (gZ.out.rows.row.frozenAt xB.out _);obtain⟨gA,gc,rfl⟩:=aw.form fw;obtain⟨gn,eB⟩:=aJZ ((Np.bN xt).length);rw[eB] at fw |-;have db:=jq fw;have gO:=jq eu;clear fw eu AP eB;dsimp only;refine gM 13 (D:=[0,1,2,3,4,5,6,8,9,10,11,12,7]) (val:=oU g n cap i fA fn fc (.tuple #[.slice gA gn gc,.int .i64 0])) EL EM (hH.next EL EM hr) (by kernel_rfl) ?_ ?_
        ·intro i aU bd o ho a' hb aM;have k6':=aLY hb fF.out;have k15':=aLY hb KA.out;simp[Act.eval] at k6' k15'
         repeat' (rcases aU with _ | ⟨_,aU⟩)
         all_goals first
          | (exfalso;simp at bd;done)
          | (cases ho
             try simp[Act.eval,Region.binds,oU,oT] at aM
             refine gE (by simp[Region.wanted]) ?_;simp[Oper.quietAt,Oper.quietUpon,execOp,go_sem,oU,k6',k15',b6,f6,ke,gL,Cb,EN,aM])
        ·intro f listed a' hH hr hv;have av9:=hv 9;have av12:=hv 12;simp[Act.eval,oU,oT,Cb] at av9 av12;simp only[wpOp];simp[Region.wanted];refine .inl ?_;simp[Oper.wp,execOp,go_sem,av9,av12,f6,vJ];clear b6 f6 vJ;obtain⟨W',hW'⟩:=aJZ (wC.setCell ⟨g,i * 8+6,none⟩ (.slice gA gn gc));have Li:=jq (gZ.out.normed xB.out HX.out (ps':=Np.bN xt) gO.out db.out (by have:=gZ.out.rd.size;omega));rw[hW'] at Li |-;have fR:Below w6.heap.size wr W':=by rw[<-hW'];exact (gO.out.mono (by have:=gZ.out.rd.size;omega)).setCell (by dsimp only;omega) _
         have ra:=jq (aMY xm.out fR);clear fR;have Pg:W'.heap.size=wC.heap.size:=by rw[<-hW'];simp[World.setCell]
         refine aDJ (R:=[10]) (D:=[0,1,2,3,4,5,6,8,9,10,11,12,7]) (dst:=oT) (val:=oU g n cap i fA fn fc (.tuple #[.slice gA gn gc,.int .i64 0])) (a0:=a0) (m:=101) HM.out (Rx (by kernel_rfl)) (by simp) (λi hi=>?_) (λi hi=>by simp at hi;subst hi;exact⟨_,rfl,rfl⟩) (λi hi=>(EL i hi).1) EM (λi hi o ho e he hb=>?_) (λi hi o ho a' aM=>?_) ?_ _ _ _ (hH.rest hr (by simp) (by kernel_rfl))
         ·simp at hi |-;omega
         ·simp at hi;subst hi
          cases ho
          simp at he;rcases he with rfl | rfl
          ·simp
          ·simp[Region.binds] at hb
         ·simp at hi;subst hi
          cases ho
          simp[Act.eval,Region.binds,oU,oT] at aM;refine gE (by simp[Region.wanted]) ?_;simp[Oper.quietAt,Oper.quietUpon,execOp,go_sem,oU,Cb,EN,aM]
         ·rw[kp.out];simp[lF,Act.put,oU,oT];clear hv hH;gi_wp2_with fail;go_roundw
          case measure=>simp[intOf] <;> omega
          case rel=>exact⟨i+1,_,_,_,by omega,by go_num,by omega,jq (by rw[List.length_set];exact xB.out),ra,Li,jq (Z6 Gf.out Lc.out HX.out _)⟩
      ·obtain rfl:i=n:=by omega
       obtain⟨oA',oc',rfl⟩:=gZ.out.rows.row.formN xB.out;have b0:=xm.out.cell;have NF:¬ S (X+1+1):=λe=>by have:=er.out _ e;omega
       have Nt:¬ S (X+1+1+1):=λe=>by have:=er.out _ e;omega
       have LC:Hid (Boxed wr (X+1+1) 52 (.slice none 0 0)):=jq ((gZ.out.rd.keep (X+1+1) (by omega) NF).trans iH.out);have K0:Hid (Boxed wr (X+1+1+1) 37 (.int .i64 0)):=jq ((gZ.out.rd.keep (X+1+1+1) (by omega) Nt).trans FR.out);have sR:Hid (wr.heap[D]?=some (.deferred (some []))):=jq ((gZ.out.rd.keep D KX.out xL.out).trans Lk.out);have cH:Hid (Below X w wr):=jq (KT.out.trans (gZ.out.rd.below (by omega) (λk e=>by have:=er.out k e;omega)));have o0:=LC.out.cell;have o1:=LC.out.frozen;have q0:=K0.out.cell;have q1:=K0.out.frozen;gi_wp2_with fail;obtain⟨W',hW'⟩:=aJZ ((wr.setCell ⟨X+1+1,0,none⟩ (.slice oA' i oc')).setCell ⟨X+1+1+1,0,none⟩ (.int .i64 0));have Eu:W'.heap.size=wr.heap.size:=by rw[<-hW'];simp
       have D8:∀ k,k≠X+1+1->k≠X+1+1+1->W'.heap[k]?=wr.heap[k]?:=λk h1 h2=>by rw[<-hW'];exact (wQ _ _ _ k h2).trans (wQ _ _ _ k h1)
       have Hq:Below X w W':=by rw[<-hW'];exact ((cH.out.setCell (p:=⟨X+1+1,0,none⟩) (by dsimp only;omega) _).setCell (p:=⟨X+1+1+1,0,none⟩) (by dsimp only;omega) _)
       have tP:W'.os=wr.os/\W'.tape=wr.tape/\W'.output=wr.output:=by rw[<-hW'];simp[World.setCell]
       have Hw:W'.heap[D]?=some (.deferred (some [])):=(D8 D (Ne.symm DO) (Ne.symm DF)).trans sR.out;have e0:W'.cell? ⟨X+1+1,0,none⟩=some (.slice oA' i oc'):=by rw[<-hW'];simp[go_sem,o0]
       have e1:W'.cell? ⟨X+1+1+1,0,none⟩=some (.int .i64 0):=by rw[<-hW'];simp[go_sem,q0]
       have f0:=(iQ (w:=W') (w':=W'.putObj D (.deferred none)) (a:=⟨X+1+1,0,none⟩) (zQ DO)).trans e0;have f1:=(iQ (w:=W') (w':=W'.putObj D (.deferred none)) (a:=⟨X+1+1+1,0,none⟩) (zQ DF)).trans e1;rw[hW'];have XG:∀ k,k≠X+1+1->k≠X+1+1+1->k≠D->(W'.putObj D (.deferred none)).heap[k]?=wr.heap[k]?:=λk h1 h2 h3=>(zQ h3).trans (D8 k h1 h2);have YJ:(W'.putObj D (.deferred none)).heap.size=wr.heap.size:=by simpa using Eu
       have zy:=jq (gZ.out.calm (T:=λk=>k=X+1+1\/k=X+1+1+1\/k=D) (λk e=>by
        rcases e with rfl | rfl | rfl
        ·exact⟨by omega,NF⟩
        ·exact⟨by omega,Nt⟩
        ·exact⟨KX.out,xL.out⟩) (w':=W'.putObj D (.deferred none)) tP YJ (λk hk=>XG k (λe=>hk (.inl e)) (λe=>hk (.inr (.inl e))) (λe=>hk (.inr (.inr e)))))
       refine oC Hw (v:=.tuple #[.slice oA' i oc',.int .i64 0]) (by simp[results,results61,go_sem,f0,f1]) ⟨.inr ⟨bG.out,.inr ⟨(by have h1:=K8.out;simpa using h1),_,rfl,?_⟩⟩,oz Hq (by omega) _⟩;intro Mq Wz;have sw:=xB.out;have OD:us'.map (λx=>(x.1,x.2.1))=(Np.eH PS).map λx=>(x.1,Np.bN x.2):=by rw[Gf.out,Z5 Lp.out]
       have XY:(us'.map λx=>(⟨z.data.toList,x.1,x.2.1,[]⟩:Np.Held))=Np.pub h.copies z.data.toList:=by
        have h1:=Qd (List.map λx:Np.Signed×List Np.Span=>(⟨z.data.toList,x.1,x.2,[]⟩:Np.Held)) OD;rw[List.map_map,List.map_map] at h1;refine Eq.trans h1 ?_;rw[<-rn.out];exact (Np.ZF Np.bN _ _).symm
       rw[<-XY];exact zy.out.slr hz (by omega) (λx hx=>by
        have h1:(x.1,x.2.1)∈us'.map (λx=>(x.1,x.2.1)):=List.mem_map.2 ⟨x,hx,rfl⟩;rw[OD] at h1;obtain⟨y,hy,he⟩:=List.mem_map.1 h1;simp only[Prod.mk.injEq] at he;rw[<-he.2];obtain⟨j,hj⟩:=List.mem_iff_getElem?.1 hy;have h2:=mO y.2;have h3:=Np.Ke PS y.1;rw[<-Np.PK hj] at h3;have h4:=jR.out;rw[rn.out] at h4;omega) (λk hk=>by
        have h1:=Wz k hk;refine⟨gZ.out.ex k (by omega) (λe=>by have:=er.out k e;omega),λe=>by have:=(zy.out.lt e).1;omega⟩)
   case round=>
    rintro l0 pre ⟨⟨xh,xf,xt,xs,xA,xn,xc⟩,cc⟩ S W bg hI gh;have GN:Hid ((⟨⟨xh,xf,xt,xs,xA,xn,xc⟩,cc⟩:CV×Np.Copy)∈L):=jq ((List.mem_filter.1 (bg.subset (by simp:(⟨⟨xh,xf,xt,xs,xA,xn,xc⟩,cc⟩:CV×Np.Copy)∈_))).1);have py:=aeX hI ((vQ _ W).alloc (bQ _) (.cells #[.int .i64 xh,.int .i64 xf,.int .i64 xt,.string xs,.slice xA xn xc] 46));have AG:w6.heap.size<=W.heap.size:=by obtain⟨_,_,_,_,_,_,_,_,_,_,_,_,_,_,_,_,_,hB⟩:=hI;exact hB.size
    have oe:=jq bg;clear hI bg;gi_wp2;refine⟨λk=>S k\/k=W.heap.size,(RdStep.refl S W).alloc _,λk e=>e.imp id (λh=>by omega),λk e=>by rcases e with e | e;have:=gh k e;simp;omega;simp;omega,?_⟩;intro l W₂ az;have Wv:=Qe w6 Bh (Bh+1) (Bh+1+1) z pre S _ W₂ py (az.weaken (bQ _) (λk e=>.inl e));have lZ:=az.size;simp only[World.size_alloc] at lZ;have ib:W₂.heap[W.heap.size]?=some (.cells #[.int .i64 xh,.int .i64 xf,.int .i64 xt,.string xs,.slice xA xn xc] 46):=(az.keep W.heap.size (by simp) (.inr (.inr rfl))).trans (heap_alloc_new _ _);obtain⟨us,ov,M,DL,AE,DK,hown,AD,AB,mbo,mbt,mbm,eN,rG,tv,ye,yr,aF⟩:=Wv;have TU:Hid (∀ k,S k->k<W.heap.size):=jq gh;have er:=jq AD;have zI:=jq (And.intro DL (And.intro AE DK));have CI:Hid (CVOf w6 X ⟨xh,xf,xt,xs,xA,xn,xc⟩ cc):=jq (pj.out _ GN.out);have yc:Below X w6 W₂:=aF.below (by omega) (λk e=>by omega);have RW:=jq (dj.out.trans yc);have fj:=jq aF;obtain⟨sets,yA⟩:=aJZ cc.zone.sets;have sV:=jq yA;have TS:Hid (SlR cV 5 W₂ X (.slice xA xn xc) sets):=jq (by have:=(CI.out.keep yc).sets;rw[yA] at this;exact this);have wd:sets.length=xn:=by rw[<-yA];exact CI.out.len
    have zL:=jq wd;have tw:cc∈h.copies:=by rw[<-rk.out];exact List.mem_map.2 ⟨_,GN.out,rfl⟩
    have lc:=jq tw;have YC:xn<=20000:=by rw[<-wd,<-yA];exact ph.out.2 cc tw
    have Nz:Np.jL cc=⟨xf,xt⟩:=by
     have h1:=CI.out.frm;have h2:=CI.out.til;dsimp only at h1 h2;unfold Np.jL;rw[h1,h2]
    obtain⟨PP,H7⟩:=aJZ ((pre.map (·.2)).flatMap Np.nO);rw[H7] at yr;have nX:Hid (((pre ++ [((⟨xh,xf,xt,xs,xA,xn,xc⟩,cc):CV×Np.Copy)]).map (·.2)).flatMap Np.nO=PP++sets.map λs=>((⟨xf,xt⟩:Np.Span),s)):=jq (by
     rw[List.map_append,List.flatMap_append,H7];simp[Np.nO,Nz,yA])
    have LT:Hid (∃ c,Np.cL h.copies z.data.toList=(PP++sets.map λs=>((⟨xf,xt⟩:Np.Span),s))++c):=jq (by
     obtain⟨c,hc⟩:=acJ oe.out;rw[nX.out,MI pj.out,rk.out] at hc;exact⟨c,hc⟩)
    have LF:Hid (∀ j,(psP PP ⟨xf,xt⟩ sets j).length<=5000):=jq (λj=>by
     obtain⟨c,hc⟩:=LT.out;have h1:=Qd List.length hc;have h2:=adZ PP ⟨xf,xt⟩ sets j;have h3:=jR.out;rw[List.length_append] at h1;omega)
    have TB:Hid (∀ j,∀ p∈psP PP ⟨xf,xt⟩ sets j,Np.Plain47 p.2):=jq (λj p hp=>by
     obtain⟨c,hc⟩:=LT.out;have h1:p∈Np.cL h.copies z.data.toList:=by rw[hc];exact List.mem_append.2 (.inl (adJ hp))
     obtain⟨d,hd,_,hs,_⟩:=Np.ug.1 h1;exact Np.RP (HV.out.each d hd).zone hs (zH.out d hd _ hs))
    obtain⟨w7,Jm⟩:=aJZ (W₂.setCell ⟨Bh+1,0,none⟩ (.bool true));have t7:Turned (Bh+1) W₂ w7:=by rw[<-Jm];exact⟨rfl,rfl,rfl,by simp[World.setCell],λi hi=>wQ _ _ _ _ hi⟩
    have qG:w7.heap.size=W₂.heap.size:=t7.size;have WS:=rG.cell;have WT:=rG.frozen;have KP:Hid (Boxed w7 (Bh+1) 4 (.bool true)):=jq (by rw[<-Jm];exact rG.set _);have KL:Hid (Boxed w7 Bh 52 ov):=jq ((t7.block Bh (by omega)).trans eN);have KJ:Hid (dT (Bh+1+1) (Np.nL (us.map (·.1))) w7):=jq (tv.stays (t7.block _ (by omega)));have jN:=jq ib;have NS:=(t7.block W.heap.size (by omega)).trans ib;have Lf:Hid (PubK S W₂ w6.heap.size z (λk=>M k/\k<W₂.heap.size) us ov w7):=jq ((PubK.start ye AB hown).touch ⟨mbt,rG.lt⟩ (.inl AE) (λe=>by have:=(ye.lt e).1;omega) t7);have WW:w7.cell? ⟨W.heap.size,4,none⟩=some (.slice xA xn xc):=by simp[World.cell?,NS]
    have L8:Hid (W₂.heap[X+1]?=w6.heap[X+1]?/\W₂.heap[Bh+1+1+1]?=w6.heap[Bh+1+1+1]?):=jq ⟨aF.keep _ (by omega) (by omega),aF.keep _ (by omega) (by omega)⟩;have Lo:Hid ((M Bh/\Bh<W₂.heap.size)/\(M (Bh+1+1)/\Bh+1+1<W₂.heap.size)/\(M (Bh+1)/\Bh+1<W₂.heap.size)):=jq ⟨⟨mbo,by omega⟩,⟨mbm,by omega⟩,⟨mbt,by omega⟩⟩;have Lr:=jq yr;have hXW:X+4<=Bh:=by omega
    have vq:Bh+6<=W.heap.size:=by omega
    have Ie:W.heap.size<W₂.heap.size:=by omega
    have NO:¬ S W.heap.size:=λe=>by have:=gh _ e;omega
    have CJ:=jq NO;clear H7 yA eN rG tv ye yr aF t7 ib NS py az gh AD AB mbo mbt mbm hown DL AE DK yc Nz tw NO;gi_wp2_with fail;clear Jm WW WS WT;obtain⟨ih,Xu,Xo,Xp,Xq⟩:=info_parts Tryz.infoHeldA;gi_loopw [33] (λi wr=>∃ (j:Nat) (us:List PT) (ov:Value) (M:Nat->Prop),j<=xn/\i = .int .i64 j/\W₂.heap.size<=wr.heap.size/\Hid (Boxed wr Bh 52 ov)/\Hid (Boxed wr (Bh+1) 4 (.bool true))/\Hid (dT (Bh+1+1) (Np.nL (us.map (·.1))) wr)/\Hid (PubK S W₂ w6.heap.size z M us ov wr)/\Hid (M Bh/\M (Bh+1+1)/\M (Bh+1))/\Hid (us.map (λx=>(x.1,x.2.1))=Np.eH (psP PP ⟨xf,xt⟩ sets j))) (λi _=>xn - (intOf i).toNat)
    case atStart=>exact⟨0,us,ov,_,jQ _,rfl,by omega,KL,KP,KJ,Lf,Lo,jq (by rw[adX];exact Lr.out)⟩
    case round=>
     clear KL KP KJ Lf Lo Lr qG;obtain⟨j,us,ov,M,hj,rfl,Pi,xm,KS,KK,gZ,cj,lJ⟩:=hrel;have cH:Hid (Below X w wr):=jq (RW.out.trans (gZ.out.rd.below (by omega) (λk e=>by have:=er.out k e;omega)));have CR:Hid (∀ k,k<W₂.heap.size->¬ S k->wr.heap[k]?=W₂.heap[k]?):=jq gZ.out.rd.keep;by_cases aa:j<xn
     ·obtain⟨x,ab⟩:∃ x,sets[j]?=some x:=⟨_,aQ (by rw[zL.out];exact aa)⟩;obtain⟨b',o,c',ss,dv,sv,hA,hb',_,hs,BQ,aT,aR,e0,e1,e2,e3,e4⟩:=fE (TS.out.keep bU (gZ.out.rd.below (n:=X) (by omega) (λk e=>by have:=er.out k e;omega))) ab;simp only[Value.slice.injEq] at hA;obtain⟨rfl,-,rfl⟩:=hA;have nI:x∈cc.zone.sets:=by rw[sV.out];exact gQ ab
      have F6:Hid (KeyS x):=jq (aGZ (HV.out.each cc lc.out).zone nI (zH.out cc lc.out x nI));have LI:Hid (Np.Plain47 x):=jq (Np.RP (HV.out.each cc lc.out).zone nI (zH.out cc lc.out x nI));have dR:Hid (psP PP ⟨xf,xt⟩ sets (j+1)=psP PP ⟨xf,xt⟩ sets j ++ [(⟨xf,xt⟩,x)]):=jq (adK ab);have qj:=jq (And.intro hs BQ);have L6:Hid ((⟨⟨ss.data.toList,x.set.type,x.set.life,x.set.data⟩,x.sigs⟩:Np.Signed)=x):=jq (by rw[hs]);have CL:Hid (x.set.data.length<=1000/\x.sigs.length<=1000):=jq (by have h1:=F6.out.few;have h2:=F6.out.fewS;omega);have mh:Hid (∀ W',Below X wr W'->SlR cA 3 W' W'.heap.size dv x.set.data):=jq (λW' hb=>(aT.keep bD hb).more bP (by have:=hb.size;omega));have FX:Hid (∀ W',Below X wr W'->SlR de 6 W' W'.heap.size sv x.sigs):=jq (λW' hb=>(aR.keep bH hb).more cE (by have:=hb.size;omega));obtain⟨dA,dc,rfl,_,_⟩:=aj aT;obtain⟨gA,gc,rfl,_,_⟩:=aj aR;obtain⟨dn,kG⟩:=aJZ x.set.data.length;obtain⟨gn,eB⟩:=aJZ x.sigs.length;rw[kG] at e3 mh;rw[eB] at e4 FX;have Sv:=jq kG;have SQ:=jq eB;clear ab hs BQ aT aR kG eB nI;have bF:(0:Int)<=(j:Int):=by omega
      have bL:(j:Int)<(xn:Int):=by omega
      obtain⟨w8,ik⟩:=aJZ (wr.alloc (.cells #[.string ss,.int .i64 x.set.type,.int .i64 x.set.life,.slice dA dn dc,.slice gA gn gc] 42));have qH:w8.heap.size=wr.heap.size+1:=by rw[<-ik];simp
      have dt:Below wr.heap.size wr w8:=by rw[<-ik];exact (vQ _ _).alloc (bQ _) _
      have p0:w8.cell? ⟨wr.heap.size,0,none⟩=some (.string ss):=by rw[<-ik];simp[go_sem]
      have p1:w8.cell? ⟨wr.heap.size,1,none⟩=some (.int .i64 x.set.type):=by rw[<-ik];simp[go_sem]
      have p2:w8.cell? ⟨wr.heap.size,2,none⟩=some (.int .i64 x.set.life):=by rw[<-ik];simp[go_sem]
      have p3:w8.cell? ⟨wr.heap.size,3,none⟩=some (.slice dA dn dc):=by rw[<-ik];simp[go_sem]
      have p4:w8.cell? ⟨wr.heap.size,4,none⟩=some (.slice gA gn gc):=by rw[<-ik];simp[go_sem]
      have gY:=jq dt;clear dt;gi_wp2_with fail;refine⟨trivial,rfl,?_⟩;refine (CallsIn.inRound l (callsIn_wide.2 (axX ss x.set.type x.set.life _ _ x.set.data x.sigs w8 (od.out.keepAt (cH.out.trans (gY.out.aKZ)) ri.out) (by rw[L6.out];exact F6.out) (mh.out w8 (gY.out.aKZ)) (FX.out w8 (gY.out.aKZ))))).mono ?_;rw[L6.out];rintro e w9 ⟨rfl,dU⟩;clear ik e0 e1 e2 e3 e4;have yE:=dU.size;have fH:Hid (Below wr.heap.size wr w9):=aIX gY dU;replace p0:=aIZ dU p0;replace p1:=aIZ dU p1;replace p2:=aIZ dU p2;replace p3:=aIZ dU p3;replace p4:=aIZ dU p4;have CE:=jq (aMY xm.out fH.out);have KR:=jq (aMY KS.out fH.out);have Fu:Hid (dT (Bh+1+1) (Np.nL (us.map (·.1))) w9):=jq (KK.out.keep fH.out (by omega));have rj:=jq (gZ.out.keep fH.out);have DU:=(fH.out.block _ (by omega)).trans ((CR.out _ (by omega) CJ.out).trans jN.out);have NW:w9.heap[X+1]?=w6.heap[X+1]?:=(fH.out.block _ (by omega)).trans ((CR.out _ (by omega) (λe=>by have:=er.out _ e;omega)).trans L8.out.1);have NV:w9.heap[Bh+1+1+1]?=w6.heap[Bh+1+1+1]?:=(fH.out.block _ (by omega)).trans ((CR.out _ (by omega) (λe=>by have:=er.out _ e;omega)).trans L8.out.2);have bx:w9.cell? ⟨Bh+1+1+1,0,none⟩=some (.map (some (Bh+1+1))):=(iQ NV).trans Sg.out.cell;have kz:w9.cell? ⟨X+1,0,none⟩=some (.string z):=(iQ NW).trans zl.out;have kP:=aqK (P:=prog) w9 213 9 3 underlying213 underlying9 (Bh+1+1) _ Fu.out (Np.jH x) (.int .i64 0) (by kernel_rfl);have LZ:Hid (∀ y∈us.map (·.1),Np.Plain47 y):=jq (λy hy=>by
       rw[EF lJ.out] at hy;obtain⟨p,hp,rfl⟩:=List.mem_map.1 (Np.wl.1 hy);exact TB.out j p hp)
      have zK:Hid ((us.map (·.1)).Nodup):=jq (by rw[EF lJ.out];exact Np.wt _);have LX:Hid (us.length<=5000):=jq (by have h1:=PJ lJ.out;have h2:=LF.out j;omega);clear dU NW NV;obtain⟨key,yp⟩:=aJZ (Np.jH x);rw[yp] at kP |-;by_cases hin:x∈us.map (·.1)
      ·obtain⟨q,hq⟩:=List.mem_iff_getElem?.1 hin;have iT:(Np.nL (us.map (·.1))).lookup key=some (.int .i64 ((q:Nat):Int)):=by rw[<-yp];exact Np.Y9 LI.out LZ.out zK.out hq
       rw[iT] at kP;simp only[Option.getD_some,Option.isSome_some] at kP;rw[EF lJ.out] at hq;obtain⟨fv,hy⟩:=ZJ lJ.out hq;obtain⟨tl,t6⟩:=aJZ (Np.eq (psP PP ⟨xf,xt⟩ sets j) x);have jb:Hid (∀ v',(us.set q (x,tl ++ [⟨xf,xt⟩],v')).map (λx=>(x.1,x.2.1))=Np.eH (psP PP ⟨xf,xt⟩ sets (j+1))):=jq (λv'=>by rw[dR.out,<-t6];exact ZL lJ.out hq _ v');have GG:Hid (tl.length<=5000):=jq (by rw[<-t6];have h1:=Cr (psP PP ⟨xf,xt⟩ sets j) x;have h2:=LF.out j;omega);rw[t6] at hy;clear hin iT hq t6 yp;obtain⟨n,hn⟩:=aJZ us.length;have aXQ:q<n:=by rw[<-hn];exact (cQ.1 hy).1
       obtain⟨g,cap,rfl,dO,IF,pG⟩:=rj.out.rows.row.formSome hn (by omega);have cw:=jq hn;have IV:n<=5000:=by rw[<-hn];exact LX.out
       have tO:aw w6.heap.size w9 fv tl:=rj.out.rows.fresh _ (gQ hy);obtain⟨fA,fc,rfl⟩:=aw.form tO;obtain⟨fn,ed⟩:=aJZ tl.length;rw[ed] at hy tO;have uG:=jq ed;have HY:=jq hy;have gb:Hid (∀ k,(Value.slice fA fn fc).ownBlock=some k->w6.heap.size<=k/\k≠g/\k≠W.heap.size):=jq (λk e=>by
        have h1:=World.ownsRow.lt tO k e;have h2:=(rj.out.rows.off _ (gQ hy) k e).1;have h3:=rj.out.own k (.inr ⟨_,gQ hy,e⟩);exact⟨h1.1,λe=>h2 (by rw[e];rfl),λe2=>by
         subst e2;rcases h3 with h3 | h3
         ·exact CJ.out h3
         ·omega⟩)
       have b6:=CE.out.cell;have f6:w9.cell? ⟨g,q * 8+6,none⟩=some (.slice fA fn fc):=ID rj.out.rows.row hy;have c1:w9.cell? ⟨W.heap.size,1,none⟩=some (.int .i64 xf):=by simp[World.cell?,DU]
       have c2:w9.cell? ⟨W.heap.size,2,none⟩=some (.int .i64 xt):=by simp[World.cell?,DU]
       have ke:(0:Int)<=(q:Int):=by omega
       have gL:(q:Int)<(n:Int):=by omega
       have pJ:decide ((20000:Int)<(n:Int))=false:=aKX;have Xl:decide (20000<n)=false:=aKX;have uH:=rj;have CD:=CE;have Fw:=KR;have CC:=Fu;have uL:=cj;have Xk:W.heap.size<w9.heap.size:=by omega
       clear hn hy tO ed DU pG;gi_wp2_with fail;refine Ff λa0 br=>?_;have kp:=jq br;have fF:=jq (show a0.eval (.tmp 6) = .pointer (some ⟨Bh,0,none⟩) by rw[br];rfl);have uu:=jq (show a0.eval (.tmp 13) = .int .i64 (q:Nat) by rw[br];rfl);have lG:=jq (show a0.eval (.tmp 9) = .pointer (some ⟨W.heap.size,0,none⟩) by rw[br];rfl);have HM:=jq (show a0.tmps.size=101 by rw[br];rfl);clear br;refine Ku (by kernel_rfl) (by kernel_rfl) (by rintro⟨_,_,h⟩;exact h) ?_;refine gM 12 (D:=[0,1,2,3,4,5,6,7,8,9,10,11,14,15]) (val:=gD g n cap q fA fn fc W.heap.size xf xt undef undef) oS qQ (tx HM.out) (by kernel_rfl) ?_ ?_
       ·intro i aU bd o ho a' hb aM;have k6':=aLY hb fF.out;have k13':=aLY hb uu.out;have k9':=aLY hb lG.out;simp[Act.eval] at k6' k13' k9'
        repeat' (rcases aU with _ | ⟨_,aU⟩)
        all_goals first
         | (exfalso;simp at bd;done)
         | (cases ho
            try simp[Act.eval,Region.binds,gD,jI] at aM
            refine gE (by simp[Region.wanted]) ?_;simp[Oper.quietAt,Oper.quietUpon,execOp,go_sem,gD,k6',k13',k9',b6,f6,c1,c2,ke,gL,aM])
       ·intro f listed a' hH hr hv;have av11:=hv 11;simp[Act.eval,gD,jI] at av11;simp only[wpOp];simp[Region.wanted];refine .inl ?_;simp[Oper.wp,execOp,go_sem,av11];obtain⟨wA,eE⟩:=aKQ ((w9.alloc (.cells #[.int .i64 xf,.int .i64 xt] 110)).drew);rw[<-eE];have du:Below w9.heap.size w9 wA:=by rw[eE];exact ((vQ _ _).alloc (bQ _) _).drew
        have Es:wA.heap.size=w9.heap.size+1:=by rw[eE];simp[World.drew]
        have sK:Hid (wA.cell? ⟨w9.heap.size,0,none⟩=some (.int .i64 xf)/\wA.cell? ⟨w9.heap.size,1,none⟩=some (.int .i64 xt)):=jq (by rw[eE];exact⟨by simp[go_sem],by simp[go_sem]⟩);replace b6:=aIZ du b6;replace f6:=aIZ du f6;replace c1:=aIZ du c1;replace c2:=aIZ du c2;have uI:=jq (uH.out.keep du);have eb:=jq du;clear eE du;refine gM 13 (D:=[0,1,2,3,4,5,6,7,8,9,10,11,14,15,12]) (val:=gD g n cap q fA fn fc W.heap.size xf xt (.slice (some ⟨w9.heap.size,0,none⟩) 1 1) undef) oS qQ (hH.next oS qQ hr) (by kernel_rfl) ?_ ?_
        ·intro i aU bd o ho a' hb aM;have k6':=aLY hb fF.out;have k13':=aLY hb uu.out;have k9':=aLY hb lG.out;simp[Act.eval] at k6' k13' k9'
         repeat' (rcases aU with _ | ⟨_,aU⟩)
         all_goals first
          | (exfalso;simp at bd;done)
          | (cases ho
             try simp[Act.eval,Region.binds,gD,jI] at aM
             refine gE (by simp[Region.wanted]) ?_;simp[Oper.quietAt,Oper.quietUpon,execOp,go_sem,gD,k6',k13',k9',b6,f6,c1,c2,ke,gL,aM])
        ·intro f listed a' hH hr hv;have av6:=hv 6;have av12:=hv 12;simp[gD,jI] at av6 av12;simp only[wpOp];simp[Region.wanted];refine .inl ?_;refine Kx wA (.tmp 68) (.tmp 74) rfl w6.heap.size (.slice fA fn fc) tl av6 (uI.out.rows.fresh _ (gQ HY.out)) w9.heap.size xf xt av12 sK.out.1 sK.out.2 (by have:=GG.out;omega) (by omega) ?_;intro v8 wB dK cr gJ;obtain⟨eA,ec,rfl⟩:=EJ dK (n:=(fn+1)) (by rw[List.length_append,uG.out];rfl);have Et:=cr.size;have ffA:wA.frozen? ⟨g,q * 8+6,none⟩=false:=uI.out.rows.row.frozenAt cw.out _;have rR:wB.heap[Bh]?=wA.heap[Bh]?:=cr.block Bh (by omega) (λe=>by have:=(gb.out Bh e.symm).1;omega);have vO:wB.heap[g]?=wA.heap[g]?:=cr.block g (by omega) (λe=>(gb.out g e.symm).2.1 rfl);have vN:wB.heap[W.heap.size]?=wA.heap[W.heap.size]?:=cr.block W.heap.size (by omega) (λe=>(gb.out _ e.symm).2.2 rfl);replace b6:=(iQ (a:=⟨Bh,0,none⟩) rR).trans b6;replace f6:=(iQ (a:=⟨g,q * 8+6,none⟩) vO).trans f6;replace c1:=(iQ (a:=⟨W.heap.size,1,none⟩) vN).trans c1;replace c2:=(iQ (a:=⟨W.heap.size,2,none⟩) vN).trans c2;have ff:=(World.frozen?_of_block (a:=⟨g,q * 8+6,none⟩) vO).trans ffA;have H8:=jq (And.intro dK (And.intro cr gJ));clear dK cr gJ rR vO vN ffA;refine gM 16 (D:=[0,1,2,3,4,5,6,7,8,9,10,11,14,15,12,13]) (val:=gD g n cap q fA fn fc W.heap.size xf xt (.slice (some ⟨w9.heap.size,0,none⟩) 1 1) (.slice eA (fn+1) ec)) oS qQ (hH.next oS qQ hr) (by kernel_rfl) ?_ ?_
         ·intro i aU bd o ho a' hb aM;have k6':=aLY hb fF.out;have k13':=aLY hb uu.out;have k9':=aLY hb lG.out;simp[Act.eval] at k6' k13' k9'
          repeat' (rcases aU with _ | ⟨_,aU⟩)
          all_goals first
           | (exfalso;simp at bd;done)
           | (cases ho
              try simp[Act.eval,Region.binds,gD,jI] at aM
              refine gE (by simp[Region.wanted]) ?_;simp[Oper.quietAt,Oper.quietUpon,execOp,go_sem,gD,k6',k13',k9',b6,f6,c1,c2,ke,gL,aM])
         ·intro f listed a' hH hr hv;have av13:=hv 13;have av15:=hv 15;simp[Act.eval,gD,jI] at av13 av15;simp only[wpOp];simp[Region.wanted];refine .inl ?_;simp[Oper.wp,execOp,go_sem,av13,av15,f6,ff];refine wT hH hr HM.out oS (by kernel_rfl) λew=>?_
          ·rw[ew,kp.out];simp[lF,Act.put,gD,jI];clear hv hH ew;clear b6 f6 c1 c2 ff;obtain⟨W',hW'⟩:=aJZ (wB.setCell ⟨g,q * 8+6,none⟩ (.slice eA (fn+1) ec));have uF:Hid (PubK S W₂ w6.heap.size z (λk=>M k\/(Value.slice eA (fn+1) ec).ownBlock=some k) (us.set q (x,tl ++ [⟨xf,xt⟩],.slice eA (fn+1) ec)) (.slice (some ⟨g,0,none⟩) n cap) W'):=jq (by rw[<-hW'];exact uI.out.changed cw.out HY.out H8.out.2.1 H8.out.1 H8.out.2.2);have gO:Hid (Below w6.heap.size w9 W'):=jq (by rw[<-hW'];exact ((eb.out.aKZ).trans ((vQ _ _).grown H8.out.2.1 (by omega) (λk e=>(gb.out k e).1))).setCell (by dsimp only;omega) _);have GE:Hid ((us.set q (x,tl ++ [(⟨xf,xt⟩:Np.Span)],Value.slice eA (fn+1) ec)).map (·.1)=us.map (·.1)):=jq (QT HY.out rfl);rw[hW'];have Pg:W'.heap.size=wB.heap.size:=by rw[<-hW'];simp[World.setCell]
           gi_wp2_with fail;go_roundw
           case measure=>simp[intOf] <;> omega
           case rel=>exact⟨j+1,_,_,_,by omega,by go_num,by omega,jq (aMY CD.out gO.out),jq (aMY Fw.out gO.out),jq (by rw[GE.out];exact CC.out.keep gO.out (by omega)),uF,jq ⟨.inl uL.out.1,.inl uL.out.2.1,.inl uL.out.2.2⟩,jq (jb.out _)⟩
      ·have iT:(Np.nL (us.map (·.1))).lookup key=none:=by rw[<-yp];exact Np.Y7 LI.out LZ.out hin
       rw[iT] at kP;simp only[Option.getD_none,Option.isSome_none] at kP;have OG:x∉Np.cF ((psP PP ⟨xf,xt⟩ sets j).map (·.2)):=by rw[<-EF lJ.out];exact hin
       obtain⟨m,hm⟩:=aJZ us.length;have zq:=jq hm;have CT:Hid (m<=5000):=jq (by rw[<-hm];exact LX.out);obtain⟨wU,XP,OC,nF⟩:=aqY (P:=prog) w9 213 9 3 underlying213 underlying9 (Bh+1+1) _ Fu.out key (.int .i64 ((m:Nat):Int)) iT;obtain⟨oA,oc,rfl⟩:=rj.out.rows.row.formN hm;have b6:=CE.out.cell;have jb:Hid (∀ v',((us ++ [((x,[],.slice none 0 0):PT)]).set m (x,[] ++ [⟨xf,xt⟩],v')).map (λx=>(x.1,x.2.1))=Np.eH (psP PP ⟨xf,xt⟩ sets (j+1))):=jq (λv'=>by rw[dR.out,<-hm];exact ZK lJ.out OG _ _ v');have hzU:wU.heap.size=w9.heap.size:=nF.size;have Lj:=jq (rj.out.touch cj.out.2.1 (.inl zI.out.2.2) (λe=>by have:=(rj.out.rows.lt e).1;omega) nF);have y8:Hid (Below X wr wU):=jq ((fH.out.aKZ).trans (nF.below (by omega)));have KM:Hid (Boxed wU Bh 52 (.slice oA m oc)):=jq ((nF.block Bh (by omega)).trans CE.out);have Sd:Hid (Boxed wU (Bh+1) 4 (.bool true)):=jq ((nF.block (Bh+1) (by omega)).trans KR.out);have R7:Hid (dT (Bh+1+1) (Np.nL ((us ++ [((x,[],.slice none 0 0):PT)]).map (·.1))) wU):=jq (by
        rw[List.map_append,List.map_cons,List.map_nil,Np.Y8,yp,List.length_map,hm];exact OC)
       have Sp:Hid (wU.heap[W.heap.size]?=W₂.heap[W.heap.size]?):=jq ((nF.block _ (by omega)).trans ((fH.out.block _ (by omega)).trans (CR.out _ (by omega) CJ.out)));clear hin iT OG hm yp OC DU;gi_wp2_with fail;replace b6:=KM.out.cell;replace kz:=(iQ (a:=⟨X+1,0,none⟩) (nF.block (X+1) (by omega))).trans kz;replace p0:=(iQ (a:=⟨wr.heap.size,0,none⟩) (nF.block wr.heap.size (by omega))).trans p0;replace p1:=(iQ (a:=⟨wr.heap.size,1,none⟩) (nF.block wr.heap.size (by omega))).trans p1;replace p2:=(iQ (a:=⟨wr.heap.size,2,none⟩) (nF.block wr.heap.size (by omega))).trans p2;replace p3:=(iQ (a:=⟨wr.heap.size,3,none⟩) (nF.block wr.heap.size (by omega))).trans p3;replace p4:=(iQ (a:=⟨wr.heap.size,4,none⟩) (nF.block wr.heap.size (by omega))).trans p4;clear XP kP bx nF;refine Ff λa0 br=>?_;have kp:=jq br;have fF:=jq (show a0.eval (.tmp 6) = .pointer (some ⟨Bh,0,none⟩) by rw[br];rfl);have mU:=jq (show a0.eval (.tmp 3) = .pointer (some ⟨X+1,0,none⟩) by rw[br];rfl);have p7:=jq (show a0.eval (.tmp 11) = .pointer (some ⟨wr.heap.size,0,none⟩) by rw[br];rfl);have HM:=jq (show a0.tmps.size=101 by rw[br];rfl);clear br;refine Ku (by kernel_rfl) (by kernel_rfl) (by rintro⟨_,_,h⟩;exact h) ?_;refine gM 3 (D:=[0,1,2]) (val:=kV oA m oc z ss x.set.type x.set.life dA dn dc gA gn gc undef undef undef) uh ww (tx HM.out) (by kernel_rfl) ?_ ?_
       ·intro i aU bd o ho a' hb aM;have k6':=aLY hb fF.out;have k3':=aLY hb mU.out;have k11':=aLY hb p7.out;simp[Act.eval] at k6' k3' k11'
        repeat' (rcases aU with _ | ⟨_,aU⟩)
        all_goals first
         | (exfalso;simp at bd;done)
         | (cases ho
            try simp[Act.eval,Region.binds,kV,mR] at aM
            refine gE (by simp[Region.wanted]) ?_;simp[Oper.quietAt,Oper.quietUpon,execOp,go_sem,kV,k6',k3',k11',b6,kz,p0,p1,p2,p3,p4,yJ,aM])
       ·intro f listed a' hH hr hv;have av2:=hv 2;simp[Act.eval,kV,mR] at av2;simp only[wpOp];simp[Region.wanted];refine .inl ?_;simp[Oper.wp,go_sem,av2];refine (U7 ss x.set.type x.set.life _ x.set.data _ x.sigs (by have:=CL.out.1;omega) (by have:=CL.out.2;omega) wU.drew (mh.out wU.drew y8.out.drew) (FX.out wU.drew y8.out.drew)).mono ?_;rintro e wC ⟨dv2,gv2,rfl,jB,AP⟩;have eu:Below wU.heap.size wU wC:=(vQ wU.heap.size wU).drew.trans AP;have Pf:=eu.size;replace p0:=aIZ eu p0;replace p1:=aIZ eu p1;replace p2:=aIZ eu p2;replace p3:=aIZ eu p3;replace p4:=aIZ eu p4;replace b6:=aIZ eu b6;replace kz:=aIZ eu kz;have me:Hid (Cz wU.heap.size wC dv2 gv2 x.set.data x.sigs):=jq jB;obtain⟨dA2,dc2,rfl,_,_⟩:=aj ((jB (λ_=>False) (λ_ e=>e.elim)).1);obtain⟨gA2,gc2,rfl,_,_⟩:=aj ((jB (λ_=>False) (λ_ e=>e.elim)).2);rw[Sv.out,SQ.out] at me |-;have Lh:=jq (Lj.out.keep eu);have Fs:=jq eu;clear jB eu AP;dsimp only;refine gM 5 (D:=[0,1,2,4,3]) (val:=kV oA m oc z ss x.set.type x.set.life dA dn dc gA gn gc (.agg #[.string ss,.int .i64 x.set.type,.int .i64 x.set.life,.slice dA2 dn dc2,.slice gA2 gn gc2]) undef undef) uh ww (hH.next uh ww hr) (by kernel_rfl) ?_ ?_
        ·intro i aU bd o ho a' hb aM;have k6':=aLY hb fF.out;have k3':=aLY hb mU.out;have k11':=aLY hb p7.out;simp[Act.eval] at k6' k3' k11'
         repeat' (rcases aU with _ | ⟨_,aU⟩)
         all_goals first
          | (exfalso;simp at bd;done)
          | (cases ho
             try simp[Act.eval,Region.binds,kV,mR] at aM
             refine gE (by simp[Region.wanted]) ?_;simp[Oper.quietAt,Oper.quietUpon,execOp,go_sem,kV,k6',k3',k11',b6,kz,p0,p1,p2,p3,p4,yJ,aM])
        ·intro f listed a' hH hr hv;have av4:=hv 4;simp[Act.eval,kV,mR] at av4;simp only[wpOp];simp[Region.wanted];refine .inl ?_;simp[yJ] at av4;simp[Oper.wp,execOp,go_sem,av4];obtain⟨wX,qE⟩:=aKQ (wC.alloc (.cells #[.string z,.string ss,.int .i64 x.set.type,.int .i64 x.set.life,.slice dA2 dn dc2,.slice gA2 gn gc2,.slice none 0 0,.slice none 0 0] 57));rw[<-qE];have bJ:Below wC.heap.size wC wX:=by rw[qE];exact (vQ _ _).alloc (bQ _) _
         have AV:gG wX wC.heap.size 0 [.string z,.string ss,.int .i64 x.set.type,.int .i64 x.set.life,.slice dA2 dn dc2,.slice gA2 gn gc2,.slice none 0 0,.slice none 0 0]:=λi v hi=>by
          rw[qE]
          match i,hi with
          | 0,hi=>cases hi;simp[go_sem]
          | 1,hi=>cases hi;simp[go_sem]
          | 2,hi=>cases hi;simp[go_sem]
          | 3,hi=>cases hi;simp[go_sem]
          | 4,hi=>cases hi;simp[go_sem]
          | 5,hi=>cases hi;simp[go_sem]
          | 6,hi=>cases hi;simp[go_sem]
          | 7,hi=>cases hi;simp[go_sem]
          | i+8,hi=>simp at hi
         have YK:=bJ.size;replace p0:=aIZ bJ p0;replace p1:=aIZ bJ p1;replace p2:=aIZ bJ p2;replace p3:=aIZ bJ p3;replace p4:=aIZ bJ p4;replace b6:=aIZ bJ b6;replace kz:=aIZ bJ kz;have re:=jq AV;have zk:=jq (Lh.out.keep bJ);have Fx:=jq bJ;have kw:Hid (qm z (bn wX M) wX.heap.size [.string z,.string ss,.int .i64 x.set.type,.int .i64 x.set.life,.slice dA2 dn dc2,.slice gA2 gn gc2,.slice none 0 0,.slice none 0 0] (x,[],.slice none 0 0)):=jq (by
          have h1:=me.out M (λk hk=>Lj.out.lt k hk);have h2:=(Leaves'.of_below (M:=M) bJ).slr bD Cc bP h1.1;have h3:=(Leaves'.of_below (M:=M) bJ).slr bH yN cE h1.2;exact⟨ss,_,_,none,0,0,rfl,rfl,qj.out.1,qj.out.2,h2,h3⟩)
         clear qE bJ AV;refine gM 6 (D:=[0,1,2,4,3,5]) (val:=kV oA m oc z ss x.set.type x.set.life dA dn dc gA gn gc (.agg #[.string ss,.int .i64 x.set.type,.int .i64 x.set.life,.slice dA2 dn dc2,.slice gA2 gn gc2]) (.slice (some ⟨wC.heap.size,0,none⟩) 1 1) undef) uh ww (hH.next uh ww hr) (by kernel_rfl) ?_ ?_
         ·intro i aU bd o ho a' hb aM;have k6':=aLY hb fF.out;have k3':=aLY hb mU.out;have k11':=aLY hb p7.out;simp[Act.eval] at k6' k3' k11'
          repeat' (rcases aU with _ | ⟨_,aU⟩)
          all_goals first
           | (exfalso;simp at bd;done)
           | (cases ho
              try simp[Act.eval,Region.binds,kV,mR] at aM
              refine gE (by simp[Region.wanted]) ?_;simp[Oper.quietAt,Oper.quietUpon,execOp,go_sem,kV,k6',k3',k11',b6,kz,p0,p1,p2,p3,p4,yJ,aM])
         ·intro f listed a' hH hr hv;have av0:=hv 0;have av5:=hv 5;simp[kV,mR] at av0 av5;simp only[wpOp];simp[Region.wanted];refine .inl ?_;refine Kw (R:=qm z) (M:=M) wX (.tmp 52) (.tmp 57) 52 rfl w6.heap.size ym ih (.agg #[.string ⟨#[]⟩,.string ⟨#[]⟩,.int .i64 0,.int .i64 0,.slice none 0 0,.slice none 0 0,.slice none 0 0,.slice none 0 0]) 144 underlying52 Xu Xo Xp Xq rfl (by decide) (.slice oA m oc) us av0 zk.out.rows.row (some ⟨wC.heap.size,0,none⟩) 1 [(x,[],.slice none 0 0)] av5 (Cg rfl kw.out re.out) (apZ z) (by rw[zq.out];have:=CT.out;simp[maxLen];omega) (by rw[zq.out];have:=CT.out;simp;omega) (by omega) (EY z) (E0 z) (EZ z) ?_;intro v8 wY dK cr gJ;obtain⟨A8,c8,rfl⟩:=dK.formN (n:=m+1) (by rw[List.length_append,zq.out];rfl);have YL:=cr.size;have tN:∀ k,(Value.slice oA m oc).ownBlock=some k->w6.heap.size<=k/\k<wr.heap.size:=λk e=>by have h1:=gZ.out.rows.row.lt k e;exact h1
          have ly:wY.heap[wr.heap.size]?=wX.heap[wr.heap.size]?:=cr.block _ (by omega) (λe=>by have:=(tN _ e.symm).2;omega);have rR:wY.heap[Bh]?=wX.heap[Bh]?:=cr.block _ (by omega) (λe=>by have:=(tN _ e.symm).1;omega);have On:wY.heap[X+1]?=wX.heap[X+1]?:=cr.block _ (by omega) (λe=>by have:=(tN _ e.symm).1;omega);replace p0:=(iQ (a:=⟨wr.heap.size,0,none⟩) ly).trans p0;replace p1:=(iQ (a:=⟨wr.heap.size,1,none⟩) ly).trans p1;replace p2:=(iQ (a:=⟨wr.heap.size,2,none⟩) ly).trans p2;replace p3:=(iQ (a:=⟨wr.heap.size,3,none⟩) ly).trans p3;replace p4:=(iQ (a:=⟨wr.heap.size,4,none⟩) ly).trans p4;replace b6:=(iQ (a:=⟨Bh,0,none⟩) rR).trans b6;replace kz:=(iQ (a:=⟨X+1,0,none⟩) On).trans kz;have KN:Hid (Boxed wY Bh 52 (.slice oA m oc)):=jq (rR.trans ((Fx.out.block Bh (by omega)).trans ((Fs.out.block Bh (by omega)).trans KM.out)));have Sq:Hid (wY.heap[W.heap.size]?=wU.heap[W.heap.size]?):=jq ((cr.block _ (by omega) (λe=>by
           rcases zk.out.own _ (.inl e.symm) with h1 | h1
           ·exact CJ.out h1
           ·omega)).trans ((Fx.out.block _ (by omega)).trans (Fs.out.block _ (by omega))))
          have Sj:Hid (Below w6.heap.size wX wY):=jq ((vQ _ _).grown cr (by omega) (λk e=>(tN k e).1));have pi:=jq (zk.out.push dK cr gJ);clear dK cr gJ ly rR On;refine gM 7 (D:=[0,1,2,4,3,5,6]) (val:=kV oA m oc z ss x.set.type x.set.life dA dn dc gA gn gc (.agg #[.string ss,.int .i64 x.set.type,.int .i64 x.set.life,.slice dA2 dn dc2,.slice gA2 gn gc2]) (.slice (some ⟨wC.heap.size,0,none⟩) 1 1) (.slice A8 (m+1) c8)) uh ww (hH.next uh ww hr) (by kernel_rfl) ?_ ?_
          ·intro i aU bd o ho a' hb aM;have k6':=aLY hb fF.out;have k3':=aLY hb mU.out;have k11':=aLY hb p7.out;simp[Act.eval] at k6' k3' k11'
           repeat' (rcases aU with _ | ⟨_,aU⟩)
           all_goals first
            | (exfalso;simp at bd;done)
            | (cases ho
               try simp[Act.eval,Region.binds,kV,mR] at aM
               refine gE (by simp[Region.wanted]) ?_;simp[Oper.quietAt,Oper.quietUpon,execOp,go_sem,kV,k6',k3',k11',b6,kz,p0,p1,p2,p3,p4,yJ,aM])
          ·intro f listed a' hH hr hv;have av6:=hv 6;simp[Act.eval,kV,mR] at av6;simp only[wpOp];simp[Region.wanted];refine .inl ?_;have bf:=KN.out.frozen;have k6':=(aH hH.good.base (j:=6) (by decide) (by decide)).trans fF.out;simp[Act.eval] at k6';simp[Oper.wp,execOp,go_sem,av6,b6,bf,k6'];refine wT hH hr HM.out uh (by kernel_rfl) λew=>?_
           ·rw[ew,kp.out];simp[lF,Act.put,kV,mR];clear hv hH ew;clear p0 p1 p2 p3 p4 b6 kz bf;obtain⟨wZ,Er⟩:=aJZ (wY.setCell ⟨Bh,0,none⟩ (.slice A8 (m+1) c8));have tZ:Turned Bh wY wZ:=by rw[<-Er];exact⟨rfl,rfl,rfl,by simp[World.setCell],λi hi=>wQ _ _ _ _ hi⟩
            have hzZ:wZ.heap.size=wY.heap.size:=tZ.size;have CD:Hid (Boxed wZ Bh 52 (.slice A8 (m+1) c8)):=jq (by rw[<-Er];exact KN.out.set _);have Hr:Below w6.heap.size wU wY:=((Fs.out.aKZ).trans (Fx.out.aKZ)).trans Sj.out;have Fw:Hid (Boxed wZ (Bh+1) 4 (.bool true)):=jq ((tZ.block (Bh+1) (by omega)).trans (aMY Sd.out Hr));have CC:Hid (dT (Bh+1+1) (Np.nL ((us ++ [((x,[],.slice none 0 0):PT)]).map (·.1))) wZ):=jq ((R7.out.keep Hr (by omega)).stays (tZ.block _ (by omega)));obtain⟨u1,t8⟩:=aJZ (us ++ [((x,[],.slice none 0 0):PT)]);obtain⟨M1,Hy⟩:∃ M1:Nat->Prop,(λk=>M k\/(Value.slice A8 (m+1) c8).ownBlock=some k)=M1:=⟨_,rfl⟩;have uH:Hid (PubK S W₂ w6.heap.size z M1 u1 (.slice A8 (m+1) c8) wZ):=jq (by rw[<-t8,<-Hy];exact pi.out.touch (.inl cj.out.1) (.inl zI.out.1) (λe=>by have:=(pi.out.rows.lt e).1;omega) tZ);have uL:Hid (M1 Bh/\M1 (Bh+1+1)/\M1 (Bh+1)):=jq (by rw[<-Hy];exact⟨.inl cj.out.1,.inl cj.out.2.1,.inl cj.out.2.2⟩);rw[t8] at CC jb;have HY:Hid (u1[m]?=some (x,[],.slice none 0 0)):=jq (by rw[<-t8,<-zq.out];simp);have cw:Hid (u1.length=m+1):=jq (by rw[<-t8,<-zq.out];simp);have uG:Hid (([]:List Np.Span).length=0):=jq rfl;have GG:Hid (([]:List Np.Span).length<=5000):=jq (by simp);obtain⟨g,cap,Oe,dO,IF,pG⟩:=uH.out.rows.row.formSome cw.out (by omega);simp only[Value.slice.injEq] at Oe;obtain⟨rfl,-,rfl⟩:=Oe;have gb:Hid (∀ k,(Value.slice none 0 0).ownBlock=some k->w6.heap.size<=k/\k≠g/\k≠W.heap.size):=jq (λk e=>by cases e);have Iu:=((tZ.block _ (by omega)).trans (Sq.out.trans Sp.out)).trans jN.out;have b6:=CD.out.cell;have f6:wZ.cell? ⟨g,m * 8+6,none⟩=some (.slice none 0 0):=ID uH.out.rows.row HY.out;have c1:wZ.cell? ⟨W.heap.size,1,none⟩=some (.int .i64 xf):=by simp[World.cell?,Iu]
            have c2:wZ.cell? ⟨W.heap.size,2,none⟩=some (.int .i64 xt):=by simp[World.cell?,Iu]
            have ke:(0:Int)<=(m:Int):=by omega
            have gL:(m:Int)<(m:Int)+1:=by omega
            have pJ:decide ((20000:Int)<(m:Int)+1)=false:=tQ (by have:=CT.out;omega);have Xl:decide (20000<m+1)=false:=tQ (by have:=CT.out;omega);rw[Er];have Xk:W.heap.size<wZ.heap.size:=by omega
            clear Iu pG Hr tZ Er t8 Hy;gi_wp2_with fail;refine Ff λa0 br=>?_;have kp:=jq br;have fF:=jq (show a0.eval (.tmp 6) = .pointer (some ⟨Bh,0,none⟩) by rw[br];rfl);have uu:=jq (show a0.eval (.tmp 13) = .int .i64 (m:Nat) by rw[br];rfl);have lG:=jq (show a0.eval (.tmp 9) = .pointer (some ⟨W.heap.size,0,none⟩) by rw[br];rfl);have HM:=jq (show a0.tmps.size=101 by rw[br];rfl);clear br;refine Ku (by kernel_rfl) (by kernel_rfl) (by rintro⟨_,_,h⟩;exact h) ?_;refine gM 12 (D:=[0,1,2,3,4,5,6,7,8,9,10,11,14,15]) (val:=gD g (m+1) c8 m none 0 0 W.heap.size xf xt undef undef) oS qQ (tx HM.out) (by kernel_rfl) ?_ ?_
            ·intro i aU bd o ho a' hb aM;have k6':=aLY hb fF.out;have k13':=aLY hb uu.out;have k9':=aLY hb lG.out;simp[Act.eval] at k6' k13' k9'
             repeat' (rcases aU with _ | ⟨_,aU⟩)
             all_goals first
              | (exfalso;simp at bd;done)
              | (cases ho
                 try simp[Act.eval,Region.binds,gD,jI] at aM
                 refine gE (by simp[Region.wanted]) ?_;simp[Oper.quietAt,Oper.quietUpon,execOp,go_sem,gD,k6',k13',k9',b6,f6,c1,c2,ke,gL,aM])
            ·intro f listed a' hH hr hv;have av11:=hv 11;simp[Act.eval,gD,jI] at av11;simp only[wpOp];simp[Region.wanted];refine .inl ?_;simp[Oper.wp,execOp,go_sem,av11];obtain⟨wA,eE⟩:=aKQ ((wZ.alloc (.cells #[.int .i64 xf,.int .i64 xt] 110)).drew);rw[<-eE];have du:Below wZ.heap.size wZ wA:=by rw[eE];exact ((vQ _ _).alloc (bQ _) _).drew
             have Es:wA.heap.size=wZ.heap.size+1:=by rw[eE];simp[World.drew]
             have sK:Hid (wA.cell? ⟨wZ.heap.size,0,none⟩=some (.int .i64 xf)/\wA.cell? ⟨wZ.heap.size,1,none⟩=some (.int .i64 xt)):=jq (by rw[eE];exact⟨by simp[go_sem],by simp[go_sem]⟩);replace b6:=aIZ du b6;replace f6:=aIZ du f6;replace c1:=aIZ du c1;replace c2:=aIZ du c2;have uI:=jq (uH.out.keep du);have eb:=jq du;clear eE du;refine gM 13 (D:=[0,1,2,3,4,5,6,7,8,9,10,11,14,15,12]) (val:=gD g (m+1) c8 m none 0 0 W.heap.size xf xt (.slice (some ⟨wZ.heap.size,0,none⟩) 1 1) undef) oS qQ (hH.next oS qQ hr) (by kernel_rfl) ?_ ?_
             ·intro i aU bd o ho a' hb aM;have k6':=aLY hb fF.out;have k13':=aLY hb uu.out;have k9':=aLY hb lG.out;simp[Act.eval] at k6' k13' k9'
              repeat' (rcases aU with _ | ⟨_,aU⟩)
              all_goals first
               | (exfalso;simp at bd;done)
               | (cases ho
                  try simp[Act.eval,Region.binds,gD,jI] at aM
                  refine gE (by simp[Region.wanted]) ?_;simp[Oper.quietAt,Oper.quietUpon,execOp,go_sem,gD,k6',k13',k9',b6,f6,c1,c2,ke,gL,aM])
             ·intro f listed a' hH hr hv;have av6:=hv 6;have av12:=hv 12;simp[gD,jI] at av6 av12;simp only[wpOp];simp[Region.wanted];refine .inl ?_;refine Kx wA (.tmp 68) (.tmp 74) rfl w6.heap.size (.slice none 0 0) [] av6 (uI.out.rows.fresh _ (gQ HY.out)) wZ.heap.size xf xt av12 sK.out.1 sK.out.2 (by have:=GG.out;omega) (by omega) ?_;intro v8 wB dK cr gJ;obtain⟨eA,ec,rfl⟩:=EJ dK (n:=1) (by rw[List.length_append,uG.out];rfl);have Et:=cr.size;have ffA:wA.frozen? ⟨g,m * 8+6,none⟩=false:=uI.out.rows.row.frozenAt cw.out _;have rR:wB.heap[Bh]?=wA.heap[Bh]?:=cr.block Bh (by omega) (λe=>by have:=(gb.out Bh e.symm).1;omega);have vO:wB.heap[g]?=wA.heap[g]?:=cr.block g (by omega) (λe=>(gb.out g e.symm).2.1 rfl);have vN:wB.heap[W.heap.size]?=wA.heap[W.heap.size]?:=cr.block W.heap.size (by omega) (λe=>(gb.out _ e.symm).2.2 rfl);replace b6:=(iQ (a:=⟨Bh,0,none⟩) rR).trans b6;replace f6:=(iQ (a:=⟨g,m * 8+6,none⟩) vO).trans f6;replace c1:=(iQ (a:=⟨W.heap.size,1,none⟩) vN).trans c1;replace c2:=(iQ (a:=⟨W.heap.size,2,none⟩) vN).trans c2;have ff:=(World.frozen?_of_block (a:=⟨g,m * 8+6,none⟩) vO).trans ffA;have H8:=jq (And.intro dK (And.intro cr gJ));clear dK cr gJ rR vO vN ffA;refine gM 16 (D:=[0,1,2,3,4,5,6,7,8,9,10,11,14,15,12,13]) (val:=gD g (m+1) c8 m none 0 0 W.heap.size xf xt (.slice (some ⟨wZ.heap.size,0,none⟩) 1 1) (.slice eA 1 ec)) oS qQ (hH.next oS qQ hr) (by kernel_rfl) ?_ ?_
              ·intro i aU bd o ho a' hb aM;have k6':=aLY hb fF.out;have k13':=aLY hb uu.out;have k9':=aLY hb lG.out;simp[Act.eval] at k6' k13' k9'
               repeat' (rcases aU with _ | ⟨_,aU⟩)
               all_goals first
                | (exfalso;simp at bd;done)
                | (cases ho
                   try simp[Act.eval,Region.binds,gD,jI] at aM
                   refine gE (by simp[Region.wanted]) ?_;simp[Oper.quietAt,Oper.quietUpon,execOp,go_sem,gD,k6',k13',k9',b6,f6,c1,c2,ke,gL,aM])
              ·intro f listed a' hH hr hv;have av13:=hv 13;have av15:=hv 15;simp[Act.eval,gD,jI] at av13 av15;simp only[wpOp];simp[Region.wanted];refine .inl ?_;simp[Oper.wp,execOp,go_sem,av13,av15,f6,ff];refine wT hH hr HM.out oS (by kernel_rfl) λew=>?_
               ·rw[ew,kp.out];simp[lF,Act.put,gD,jI];clear hv hH ew;clear b6 f6 c1 c2 ff;obtain⟨W',hW'⟩:=aJZ (wB.setCell ⟨g,m * 8+6,none⟩ (.slice eA 1 ec));have uF:Hid (PubK S W₂ w6.heap.size z (λk=>M1 k\/(Value.slice eA 1 ec).ownBlock=some k) (u1.set m (x,[] ++ [⟨xf,xt⟩],.slice eA 1 ec)) (.slice (some ⟨g,0,none⟩) (m+1) c8) W'):=jq (by rw[<-hW'];exact uI.out.changed cw.out HY.out H8.out.2.1 H8.out.1 H8.out.2.2);have gO:Hid (Below w6.heap.size wZ W'):=jq (by rw[<-hW'];exact ((eb.out.aKZ).trans ((vQ _ _).grown H8.out.2.1 (by omega) (λk e=>(gb.out k e).1))).setCell (by dsimp only;omega) _);have GE:Hid ((u1.set m (x,[] ++ [(⟨xf,xt⟩:Np.Span)],Value.slice eA 1 ec)).map (·.1)=u1.map (·.1)):=jq (QT HY.out rfl);rw[hW'];have Pg:W'.heap.size=wB.heap.size:=by rw[<-hW'];simp[World.setCell]
                gi_wp2_with fail;go_roundw
                case measure=>simp[intOf] <;> omega
                case rel=>exact⟨j+1,_,_,_,by omega,by go_num,by omega,jq (aMY CD.out gO.out),jq (aMY Fw.out gO.out),jq (by rw[GE.out];exact CC.out.keep gO.out (by omega)),uF,jq ⟨.inl uL.out.1,.inl uL.out.2.1,.inl uL.out.2.2⟩,jq (jb.out _)⟩
     ·obtain rfl:j=xn:=by omega
      obtain⟨Nx,oE⟩:=gZ.out.stop;have zC:=jq Nx;have zD:=jq oE;have TP:Hid (RdStep (λk=>k=Bh\/k=Bh+1\/k=Bh+1+1) w6 wr):=jq (fj.out.trans gZ.out.rd (λk e=>by have:=er.out k e;omega));clear Nx oE;gi_wp2_with fail;refine⟨λk=>S k\/(W₂.heap.size<=k/\k<wr.heap.size),gZ.out.rd.mono (λk e=>.inl e),λk e=>?_,λk e=>?_,us,ov,_,.inl zI.out.1,.inl zI.out.2.1,.inl zI.out.2.2,zD.out,λk e=>?_,λk e=>.inr e,.inl cj.out.1,.inl cj.out.2.2,.inl cj.out.2.1,xm.out,?_,KK.out,zC.out,?_,TP.out⟩
      ·rcases e with e | e
       ·exact .inl (.inl e)
       ·exact .inr e.1
      ·rcases e with e | e
       ·have:=TU.out k e;omega
       ·exact e.2
      ·rcases e with e | e
       ·exact er.out k e
       ·right;right;right;omega
      ·have e:(!(pre ++ [((⟨xh,xf,xt,xs,xA,j,xc⟩,cc):CV×Np.Copy)]).isEmpty)=true:=by simp
       rw[e];exact KS.out
      ·rw[nX.out,<-adQ zL.out];exact lJ.out
end
section
open Go.RowKit
noncomputable def Np.qR(h:Np.Hist)(z:List UInt8):Int×List Np.Held:=if Np.yes (Np.uY h z) then (if Np.yes (Np.xP h z) then (0,Np.pub h.copies z) else (4,[])) else (1,[])
noncomputable def Np.wV(h:Np.Hist):Int×List (List UInt8):=if Np.yes (Np.VHist h) then (0,Np.apexes h.copies) else (1,[])
theorem Np.aeY{h:Np.Hist}{z:List UInt8}(k:¬ Np.uY h z):Np.qR h z=(1,[]):=by unfold Np.qR;rw[Np.aS k];rfl
theorem Np.afQ{h:Np.Hist}{z:List UInt8}(k:Np.uY h z)(k2:¬ Np.xP h z):Np.qR h z=(4,[]):=by unfold Np.qR;rw[Np.cu k,Np.aS k2];rfl
theorem Np.Qi{h:Np.Hist}{z:List UInt8}(k:Np.uY h z)(k2:Np.xP h z):Np.qR h z=(0,Np.pub h.copies z):=by unfold Np.qR;rw[Np.cu k,Np.cu k2];rfl
theorem Np.RN{h:Np.Hist}(k:Np.VHist h):Np.wV h=(0,Np.apexes h.copies):=by unfold Np.wV;rw[Np.cu k];rfl
theorem Np.RM{h:Np.Hist}(k:¬ Np.VHist h):Np.wV h=(1,[]):=by unfold Np.wV;rw[Np.aS k];rfl
structure n9(w:World)(e:List Value)(h:Np.Hist):Prop where
 rh:fM w w.heap.size e h
 use:Np.Use h
 sums:Np.nc h
theorem n9.keep{w w':World}{e:List Value}{h:Np.Hist}(k:n9 w e h)(hb:Below w.heap.size w w'):n9 w' e h:=
 ⟨nP _ _ _ _ _ (l9 _ _ _ _ _ k.rh hb) hb.size,k.use,k.sums⟩
structure lk(n:Nat)(w:World):Prop where
 rules:iv w n
 pow:iL w
 lt:1<n
theorem lk.keep{n:Nat}{w w':World}(k:lk n w)(hb:Below n w w'):lk n w':=⟨k.rules.keep hb,k.pow.keepAt hb k.lt,k.lt⟩
theorem lk.more{n m:Nat}{w:World}(k:lk n w)(h:n<=m):lk m w:=⟨k.rules.more h,k.pow,lQ k.lt h⟩
theorem lk.next{w w':World}(k:lk w.heap.size w)(hb:Below w.heap.size w w'):lk w'.heap.size w':=(k.keep hb).more hb.size
theorem UH{h:Np.Hist}(v:Np.VHist h):∀ x∈Np.apexes h.copies,x.length<=140737488355328:=λx hx=>by
 obtain⟨c,hc,rfl⟩:=Np.yG.1 hx;have h1:=(Np.uq (v.each c hc).zone).1
 have:=(Np.wn h1).1
 omega
theorem GY(l:List Np.Copy):(Np.apexes l).length<=l.length:=by
 unfold Np.apexes;rw[(Np.E3 _).length_eq]
 have:=Np.wO (l.map (·.zone.apex))
 rwa [List.length_map] at this
theorem aw.around{base n:Nat}{w:World}{v:Value}{ps:List Np.Span}(h:aw base w v ps)(hn:n<=base)(hl:ps.length<=140737488355328):gX bA 2 0 n w v ps:=λM hM=>by
 have h1:aw base (bn w M) v ps:=cX h (λg hg=>kk (λe=>by have:=hM g e;have:=(World.ownsRow.lt h g hg).1;omega));have h2:=h1.slr hl;rwa [gW] at h2
theorem cm.around{base n:Nat}{w:World}{v:Value}{ps:List (List UInt8)}(h:cm base w v ps)(hn:n<=base)(hl:ps.length<=140737488355328)(hs:∀ x∈ps,x.length<=140737488355328):gX RTx 1 0 n w v ps:=λM hM=>by
 have h1:cm base (bn w M) v ps:=cX h (λg hg=>kk (λe=>by have:=hM g e;have:=(World.ownsRow.lt h g hg).1;omega));have h2:=h1.slr hl hs;rwa [gW] at h2
structure WAt(n:Nat)(w:World)(e:List Value)(x:Np.WorldP)(A1:Option Addr)(n1 c1:Nat)(A2:Option Addr)(n2 c2:Nat)(s:ByteArray)(ty lf:Int)(A3:Option Addr)(n3 c3:Nat)(A4:Option Addr)(n4 c4:Nat):Prop where
 val:e = [.slice A1 n1 c1,.slice A2 n2 c2,.string s,.int .i64 ty,.int .i64 lf,.slice A3 n3 c3,.slice A4 n4 c4]
 all:GS w w.heap.size e x
 zones:gX uZ 3 0 n w (.slice A2 n2 c2) x.zones
 len:x.zones.length=n2
theorem WAt.keep{n:Nat}{w w':World}{e:List Value}{x:Np.WorldP}{A1:Option Addr}{n1 c1:Nat}{A2:Option Addr}{n2 c2:Nat}{s:ByteArray}{ty lf:Int}{A3:Option Addr}{n3 c3:Nat}{A4:Option Addr}{n4 c4:Nat}(h:WAt n w e x A1 n1 c1 A2 n2 c2 s ty lf A3 n3 c3 A4 n4 c4)(hb:Below w.heap.size w w'):WAt n w' e x A1 n1 c1 A2 n2 c2 s ty lf A3 n3 c3 A4 n4 c4:=
 ⟨h.val,arZ _ _ _ _ _ (arQ _ _ _ _ _ h.all hb) hb.size,h.zones.keep EX JX hb,h.len⟩
theorem cPub(e:List Value)(h:Np.Hist)(z:ByteArray)(hz:z.size<=140737488355328)(w:World)(hV:lk w.heap.size w)(k:n9 w e h) :
 Calls prog 61 #[.agg e.toArray,.string z] w λe w'=>∃ A n c,e = .returned (.tuple #[.slice A n c,.int .i64 (Np.qR h z.data.toList).1])/\(Np.qR h z.data.toList).2.length=n/\gX cM 8 0 w.heap.size w' (.slice A n c) (Np.qR h z.data.toList).2/\Below w.heap.size w w':=
 (afY e h k.use.fewH k.sums z hz (k.use.pairs _) w hV.rules hV.pow k.rh).mono λe w' ⟨h1,h2⟩=>by
   rcases h1 with ⟨n1,rfl⟩ | ⟨n1,⟨n2,rfl⟩ | ⟨n2,v',rfl,h3⟩⟩
   ·rw[Np.aeY n1];exact⟨_,_,_,rfl,rfl,gX.nil _ _ _ _,h2⟩
   ·rw[Np.afQ n1 n2];exact⟨_,_,_,rfl,rfl,gX.nil _ _ _ _,h2⟩
   ·rw[Np.Qi n1 n2];obtain⟨A,c,rfl⟩:=h3.form;exact⟨_,_,_,rfl,rfl,h3,h2⟩
theorem cZon(e:List Value)(h:Np.Hist)(w:World)(hV:lk w.heap.size w)(k:n9 w e h) :
 Calls prog 60 #[.agg e.toArray] w λe w'=>∃ A n c,e = .returned (.tuple #[.slice A n c,.int .i64 (Np.wV h).1])/\(Np.wV h).2.length=n/\gX RTx 1 0 w.heap.size w' (.slice A n c) (Np.wV h).2/\Below w.heap.size w w':=
 (aGY e h k.use.fewH w hV.rules k.rh).mono λe w' ⟨h1,h2⟩=>by
   rcases h1 with ⟨n1,v',rfl,h3⟩ | ⟨n1,rfl⟩
   ·rw[Np.RN n1];have h4:=h3.around (bQ _) (by have h4:=GY h.copies;have h5:=k.use.copies;omega) (UH n1);obtain⟨A,c,rfl⟩:=h4.form;exact⟨_,_,_,rfl,rfl,h4,h2⟩
   ·rw[Np.RM n1];exact⟨_,_,_,rfl,rfl,gX.nil _ _ _ _,h2⟩
theorem UU(e:List Value)(h:Np.Hist)(w:World)(k:n9 w e h) :
 Calls prog 44 #[.agg e.toArray] w (aOJ w.heap.size w (.bool (Np.yes (Np.VHist h)))):=
 akX e h k.use.fewH w k.rh
theorem yM{w:World}{B:Nat}{e:List Value}{h:Np.Hist}(k:fM w B e h):∃ A1 n1 c1 A2 n2 c2 s ty lf A3 n3 c3 A4 n4 c4 dr st,e = [.slice A1 n1 c1,.slice A2 n2 c2,.string s,.int .i64 ty,.int .i64 lf,.slice A3 n3 c3,.slice A4 n4 c4,.int .i64 dr,.int .i64 st]/\h.hosts.length=n1/\h.copies.length=n2/\h.stop=st/\SlR lN 3 w B (.slice A1 n1 c1) h.hosts/\SlR oq 5 w B (.slice A2 n2 c2) h.copies:=by
 obtain⟨hv,cv,s,dv,dx,rfl,_,_,h3,h4,h5,h6⟩:=k;obtain⟨A1,c1,rfl,_⟩:=aj h3;obtain⟨A2,c2,rfl,_⟩:=aj h4;obtain⟨A3,c3,rfl,_⟩:=aj h5;obtain⟨A4,c4,rfl,_⟩:=aj h6;exact⟨A1,_,c1,A2,_,c2,s,_,_,A3,_,c3,A4,_,c4,_,_,rfl,rfl,rfl,rfl,h3,h4⟩
theorem apJ:iw RTx:=λ_ _ _ _ _ _ _ h=>h
theorem uj{α:Type}{R:aPK α}{sz:Nat}{w:World}{B:Nat}{v:Value}{xs:List α}(h:SlR R sz w B v xs):∃ A n c,v = .slice A n c:=by
 obtain⟨A,c,rfl,_⟩:=aj h;exact⟨_,_,_,rfl⟩
theorem Np.aGK{z:Np.Zone}(v:Np.VZone z){x:Np.Signed}(hx:x∈z.sets):Np.UseB x:=by
 obtain⟨_,hv⟩:=Np.uq v;obtain⟨_,_,_,h4,h5,_⟩:=Np.um (hv x hx);refine⟨by omega,λg r hg=>?_⟩
 have:=((v.form x hx).2 0 g (by rw[hg];rfl)).win
 omega
theorem Np.afX{h:Np.Hist}(v:Np.VHist h){z:List UInt8}{x:Np.Held}(hx:x∈Np.pub h.copies z):Np.UseB x.signed:=by
 obtain⟨_,_,_,⟨c,hc,_,h1⟩,_⟩:=Np.ED v.full hx;exact Np.aGK (v.each c hc).zone h1
theorem Np.afK{h:Np.Hist}(v:Np.VHist h){z:List UInt8}{x:Np.Held}(hx:x∈Np.pub h.copies z):∀ s∈x.fresh,0<=s.frm/\s.frm<s.til/\s.til<=10000000:=λs hs=>by
 obtain⟨_,_,m3,_,m5⟩:=Np.ED v.full hx;have hf:=m3.full s hs;obtain⟨c,hc,_,_,k1,_⟩:=(m5 s.frm).1 ⟨s,hs,Int.le_refl _,hf⟩;obtain⟨d,hd,_,_,_,k2⟩:=(m5 (s.til - 1)).1 ⟨s,hs,by omega,by omega⟩;have e1:=(v.each c hc).times;have e2:=(v.each d hd).times;have e3:=v.stop;omega
theorem Np.P9{h:Np.Hist}(v:Np.VHist h)(u:Np.Use h){x:Np.Held}(hx:x∈Np.pubAll h):Np.UseB x.signed/\(∀ s∈x.fresh,0<=s.frm/\s.frm<s.til/\s.til<=10000000)/\x.fresh.length<=20000:=by
 obtain⟨z,_,hz⟩:=Np.JG.1 hx;refine⟨Np.afX v hz,Np.afK v hz,?_⟩;have hp:=u.pairs z;unfold Np.pub Np.kH at hz;obtain⟨s,_,rfl⟩:=List.mem_map.1 hz;exact yQ (mO _) (yQ (Cr _ _) (by omega))
theorem Np.Use.pubTo{h:Np.Hist}(u:Np.Use h)(k:Nat):(Np.pubTo h k).length<=2100:=Np.Qf (λc hc=>(u.each c hc).1) u.copies k
theorem Np.Use.pubAll{h:Np.Hist}(u:Np.Use h):(Np.pubAll h).length<=2100:=Np.aeK (λc hc=>(u.each c hc).1) u.copies
theorem cAll(e:List Value)(h:Np.Hist)(w:World)(hV:lk w.heap.size w)(k:n9 w e h) :
 Calls prog 19 #[.agg e.toArray] w λe w'=>∃ A n c,e = .returned (.tuple #[.slice A n c,.int .i64 (Np.mv h).1])/\(Np.mv h).2.length=n/\gX cM 8 0 w.heap.size w' (.slice A n c) (Np.mv h).2/\Below w.heap.size w w':=by
 obtain⟨A1,n1,c1,A2,n2,c2,s,ty,lf,A3,n3,c3,A4,n4,c4,dr,st,rfl,-,-,az,IG,Iy⟩:=yM k.rh;have pg:Hid (h.drift=dr):=jq (by
  obtain⟨hv,cv,s',dv,dx,he,_⟩:=k.rh;simp only[List.cons.injEq,Value.int.injEq,true_and,and_true] at he;exact he.2.2.2.2.2.2.2.1.symm)
 have qk:=jq hV;have HI0:=jq k;obtain⟨X,hX⟩:=aJZ w.heap.size;obtain⟨w1,ai⟩:=aJZ (w.alloc (.cells #[.slice A1 n1 c1,.slice A2 n2 c2,.string s,.int .i64 ty,.int .i64 lf,.slice A3 n3 c3,.slice A4 n4 c4,.int .i64 dr,.int .i64 st] 29));have ba:w1.heap.size=X+1:=by rw[<-ai,<-hX];simp
 have hb:Below w.heap.size w w1:=by rw[<-ai];exact (vQ _ _).alloc (bQ _) _
 have aD:=jq hb;have ir:=jq (hV.next hb);have mj:=jq (k.keep hb);have aK:=jq (lP _ _ hX ai);clear hb hV k az IG Iy;have k0:=aK.out 0 _ rfl;have k1:=aK.out 1 _ rfl;have k2:=aK.out 2 _ rfl;have k3:=aK.out 3 _ rfl;have k4:=aK.out 4 _ rfl;have k5:=aK.out 5 _ rfl;have k6:=aK.out 6 _ rfl;have k7:=aK.out 7 _ rfl;have k8:=aK.out 8 _ rfl;obtain⟨ax,qx⟩:=aJZ (Np.mv h);rw[qx];have y6:=jq qx;clear qx;go_enter func19,ntmps19;go_wp2_with fail;clear ai;refine (cZon _ h w1 ir.out mj.out).mono ?_;rintro e w2 ⟨Az,nz,cz,rfl,Oy,eD,hb⟩;have ah:=jq (aD.out.trans (hb.mono aD.out.size));have lM:=jq (ir.out.next hb);have ld:=jq (mj.out.keep hb);have bl:=jq (aK.out.keep hb (by omega));have aN:=hb.size;have iI:=jq (eD.all apJ);have Lm:=jq Oy;clear hb eD Oy k0 k1 k2 k3 k4 k5 k6 k7 k8;by_cases dI:Np.VHist h
 case neg=>
  rw[Np.RM dI];have HN:=jq dI;clear dI;go_wp2_with fail;refine bodyPost_ret (v:=.tuple #[.slice none 0 0,.int .i64 1]) (by simp[results,results19,go_sem]) rfl ?_;rw[<-y6.out,Np.xV HN.out];exact⟨_,_,_,rfl,rfl,gX.nil _ _ _ _,ah.out⟩
 case pos=>
  have kx:=jq dI;rw[Np.RN dI] at iI Lm |-;have RU:=jq (y6.out.symm.trans (Np.xW dI));have LN:Hid (SlR RTx 1 w2 w2.heap.size (.slice Az nz cz) (Np.apexes h.copies)):=jq iI.out;have F8:Hid ((Np.apexes h.copies).length=nz):=jq Lm.out;have mg:Hid (0<=dr/\dr<=1000):=jq (by rw[<-pg.out];exact dI.drift);clear dI;obtain⟨B,hB⟩:=aJZ w2.heap.size;have Ih:X<B:=by omega
  obtain⟨i0,jh,di,we,ua⟩:=info_parts Tryz.infoHeldA;have rH:nz<=cz:=by
   obtain⟨A',c',h1,h2,_⟩:=aj LN.out;simp only[Value.slice.injEq] at h1;omega
  have jk:nz<=1000:=by
   have h1:=F8.out;have h2:=GY h.copies;have h3:=ld.out.use.copies;omega
  go_wp2_with fail;go_loopw [6,23] (λvo i wr=>∃ (k m:Nat) (A:Option Addr) (c:Nat) (M:Nat->Prop),k<=nz/\i = .int .i64 k/\vo = .slice A m c/\(Np.pubTo h k).length=m/\Hid ((∀ j,j<X->M j)/\∀ j,M j->(j<X\/B<=j)/\j<wr.heap.size)/\Hid (bp cM 8 57 B M wr (.slice A m c) (Np.pubTo h k))/\Hid (Below B w2 wr)) (λ_ i _=>nz - (intOf i).toNat)
  case atStart=>exact⟨0,0,none,0,λj=>j<X,jQ _,rfl,rfl,rfl,jq ⟨λ_ h=>h,λj h=>⟨.inl h,by omega⟩⟩,jq (bp.nil _),jq (vQ _ _)⟩
  case round=>
   obtain⟨k,m,A,c,M,hk,rfl,rfl,hm,HM,HO,HB⟩:=hrel;have al:=HB.out.size;have iz:m<=2100:=by rw[<-hm];exact ld.out.use.pubTo k
   have cj:=jq hm;clear hm;by_cases aa:k<nz
   ·obtain⟨z,ab⟩:∃ z,(Np.apexes h.copies)[k]?=some z:=⟨_,aQ (by have:=F8.out;omega)⟩;have dy:=LN.out.later mS JY (show Below w2.heap.size w2 wr by rw[hB];exact HB.out);obtain⟨b,o,zs,rfl,bB,nJ,kg,e0⟩:=pW dy ab;have s9:=jq nJ;have C6:=jq (Np.yG.1 (gQ ab));have uP:=jq (Np.Qg ab);have Ue:=jq (lM.out.next (show Below w2.heap.size w2 wr by rw[hB];exact HB.out));have Td:=jq (ld.out.keep (show Below w2.heap.size w2 wr by rw[hB];exact HB.out));have dD:=jq (bl.out.keep HB.out (by omega));have k0:=dD.out 0 _ rfl;have k1:=dD.out 1 _ rfl;have k2:=dD.out 2 _ rfl;have k3:=dD.out 3 _ rfl;have k4:=dD.out 4 _ rfl;have k5:=dD.out 5 _ rfl;have k6:=dD.out 6 _ rfl;have k7:=dD.out 7 _ rfl;have k8:=dD.out 8 _ rfl;have bF:(0:Int)<=(k:Int):=by omega
    have bL:(k:Int)<(nz:Int):=by omega
    clear dy ab nJ;go_wp2_with fail;refine (cPub _ h zs kg wr Ue.out Td.out).mono ?_;rw[s9.out];rintro e w3 ⟨Ap,np,cp,rfl,Bx,El,hb⟩;have bg:Np.qR h z=(0,Np.pub h.copies z):=Np.Qi ⟨kx.out,by
     obtain⟨c',hc',rfl⟩:=C6.out;exact (Np.uq (kx.out.each c' hc').zone).1⟩ C6.out
    rw[bg] at Bx El |-;dsimp only at Bx El;have pj:=jq Bx;have kw:Hid (xS cM 8 M w3 Ap (Np.pub h.copies z)):=jq (apQ (El M (λj hj=>⟨jQ _,(HM.out.2 j hj).2⟩)) (by decide));have iq:=jq (HO.out.keep ep dL ea hb);have aA:=aIX HB hb;have gV:=hb.size;have XO:m+np<=2100:=by
     have h1:=ld.out.use.pubTo (k+1);rw[uP.out,List.length_append,cj.out,Bx] at h1;exact h1
    have fJ:=jq (HO.out.lt);clear hb Bx El bg k0 k1 k2 k3 k4 k5 k6 k7 k8 e0;go_wp2_with (at_builtin;refine Fg (R:=cM) (M:=M) w3 rfl _ _ 52 rfl B 57 i0 (.agg #[.string ⟨#[]⟩,.string ⟨#[]⟩,.int .i64 0,.int .i64 0,.slice none 0 0,.slice none 0 0,.slice none 0 0,.slice none 0 0]) 144 underlying52 jh di we ua rfl (by decide) (.slice A m c) (Np.pubTo h k) rfl iq.out Ap cp (Np.pub h.copies z) (by rw[pj.out];rfl) kw.out Cf (by rw[cj.out,pj.out];unfold maxLen;omega) (by rw[cj.out,pj.out];omega) (by omega) ep dL ea ?_;intro v8 w8 dK cr gJ;obtain⟨A8,c8,rfl⟩:=bp.formN dK (n:=m+np) (by rw[List.length_append,cj.out,pj.out]);have H8:=jq (And.intro dK (And.intro cr gJ));clear dK cr gJ);have pJ:decide ((20000:Int)<((m+np:Nat):Int))=false:=aKX;have qH:=H8.out.2.1.size;go_wp2_with fail;go_roundw
    case rel=>
     refine⟨k+1,m+np,A8,c8,_,by omega,by go_num,rfl,by rw[uP.out,List.length_append,cj.out,pj.out],jq ⟨λj hj=>Or.inl (HM.out.1 j hj),λj hj=>?_⟩,jq (by rw[uP.out];exact H8.out.1),jq (aA.out.trans ((vQ _ _).grown H8.out.2.1 (by omega) (λg hg=>(fJ.out g hg).1)))⟩;rcases hj with hj | hj
     ·have:=HM.out.2 j hj
      omega
     ·have:=H8.out.1.lt j hj
      omega
    case measure=>simp[intOf] <;> omega
   ·have Gw:Hid (Np.pubTo h k=Np.pubAll h):=jq (Np.JP (by have:=F8.out;omega));rw[Gw.out] at HO cj;go_wp2_with fail;clear aa hk;obtain⟨w4,rfl⟩:=aKQ wr;go_loopw [45] (λi wr=>∃ (k:Nat),k<=m/\i = .int .i64 k/\w4.heap.size<=wr.heap.size/\Hid (bp cM 8 57 B M wr (.slice A m c) (Np.ox dr (Np.pubAll h) k))/\Hid (Below B w2 wr)) (λi _=>m - (intOf i).toNat)
    case atStart=>exact⟨0,jQ _,rfl,bQ _,HO,HB⟩
    case round=>
     obtain⟨k,hk,rfl,I8,db,HC⟩:=hrel;have lZ:=HC.out.size;have ml:Hid ((Np.ox dr (Np.pubAll h) k).length=m):=jq (by rw[Np.UA];exact cj.out);by_cases aa:k<m
     ·obtain⟨x,ab⟩:∃ x,(Np.pubAll h)[k]?=some x:=⟨_,aQ (by rw[cj.out];exact aa)⟩;obtain⟨g,cap,hA,Hs,IF,hMg⟩:=db.out.formSome ml.out (by omega);simp only[Value.slice.injEq,true_and] at hA;obtain⟨rfl,rfl⟩:=hA;obtain⟨b,o,zs,sn,dv,sv,fv,pv,eN,bB,nJ,ay,aT,aR,iy,ii,e0,e1,e2,e3,e4,e5,e6,e7⟩:=D0 (db.out.slr dL (by rw[ml.out];omega)) (Np.Ml ab);simp only[Option.some.injEq,Addr.mk.injEq,and_true] at eN;obtain⟨rfl,rfl⟩:=eN;obtain⟨dA,dn,dc,rfl⟩:=uj aT;obtain⟨gA,gn,gc,rfl⟩:=uj aR;obtain⟨fA,fn,fc,rfl⟩:=uj iy;obtain⟨pA,pn,pc,rfl⟩:=uj ii;have oh:=jq aR;have sN:=jq iy;have mX:=jq (Np.P9 kx.out ld.out.use (gQ ab));have HAT:=jq (Np.Ml (d:=dr) ab);have dR:=jq (Np.UB (d:=dr) ab);obtain⟨w5,aJ⟩:=aJZ (wr.alloc (.cells #[.string zs,.string sn,.int .i64 x.signed.set.type,.int .i64 x.signed.set.life,.slice dA dn dc,.slice gA gn gc,.slice fA fn fc,.slice pA pn pc] 57));have av:Below wr.heap.size wr w5:=by rw[<-aJ];exact (vQ _ _).alloc (bQ _) _
      have kT:wr.heap.size<w5.heap.size:=by rw[<-aJ];simp
      have ja:=jq (lP _ _ rfl aJ);have cG:=jq av;have dl:=aIX HC av;have k7:=(bl.out.keep dl.out (by omega)) 7 _ rfl;have bF:(0:Int)<=(k:Int):=by omega
      have bL:(k:Int)<(m:Int):=by omega
      have E7:Hid (wr.cell? ⟨g,k * 8+7,none⟩=some (.slice pA pn pc)):=jq (by simpa using e7);simp only[Nat.zero_add] at e0 e1 e2 e3 e4 e5 e6 e7;have d0:=ja.out 0 _ rfl;have d1:=ja.out 1 _ rfl;have d2:=ja.out 2 _ rfl;have d3:=ja.out 3 _ rfl;have d4:=ja.out 4 _ rfl;have d5:=ja.out 5 _ rfl;have d6:=ja.out 6 _ rfl;have d7:=ja.out 7 _ rfl;clear ab nJ ay aT aR iy ii av;go_wp2_with fail;clear aJ e0 e1 e2 e3 e4 e5 e6 e7 d0 d1 d2 d3 d4 d5 d6 d7;refine (azX x mX.out.1 dr mg.out mX.out.2.1 mX.out.2.2 zs sn dA gA fA pA dn dc gn gc fn fc pn pc w5 (oh.out.later bH cE cG.out) (sN.out.later bE dP cG.out)).mono ?_;rintro e w6 ⟨v6,rfl,ig,hb⟩;obtain⟨A6,c6,rfl⟩:=ig.form;obtain⟨n6,pL⟩:=aJZ ((Np.gN x dr).length);rw[pL] at ig |-;have xC:=jq ig;have kf:=hb.size;have gO:=aIX cG hb;have Lz:=jq (db.out.keep ep dL ea gO.out);have q7:=aIZ gO.out E7.out;have z7:=Lz.out.frozenAt ml.out (k * 8+7);have zr:=jq pL;clear ig hb k7 pL;go_wp2_with fail;go_roundw
      case rel=>
       refine⟨k+1,by omega,by go_num,by simp[World.setCell];omega,jq ?_,jq ((HC.out.trans (gO.out.aKZ)).setCell (by dsimp only;omega) _)⟩;rw[<-dR.out];have yB:SlR bA 2 (bn w6 M) w6.heap.size (.slice A6 n6 c6) (Np.gN x dr):=(xC.out.around (n:=w5.heap.size) (bQ _) (by rw[zr.out];have:=mO (x.fresh.map (Np.fO x.signed dr));have h2:=zr.out;unfold Np.gN at h2;rw[List.length_map] at this;have:=mX.out.2.2;omega)) M (λj hj=>⟨jQ _,by have:=(HM.out.2 j hj).2;omega⟩)
       have:=bp.stored ep dL ea Lz.out ml.out HAT.out (c:=7) (by decide) (.slice A6 n6 c6) (y:=⟨x.zone,x.signed,x.fresh,Np.gN x dr⟩) (λr _ hr=>QF hr yB)
       simpa using this
      case measure=>simp[intOf] <;> omega
     ·have bi:Hid (Np.ox dr (Np.pubAll h) k=Np.jd h):=jq (by rw[<-pg.out];exact Np.Uz (by rw[cj.out];omega));rw[bi.out] at db ml;have HE:Hid (Below w.heap.size w wr):=aIX ah HC.out;go_wp2_with fail;refine bodyPost_ret (v:=.tuple #[.slice A m c,.int .i64 0]) (by simp[results,results19,go_sem]) rfl ?_;rw[RU.out];refine⟨_,_,_,rfl,ml.out,λM' hM'=>?_,HE.out⟩;exact db.out.slr_sans dL ea (λj hj=>⟨HM.out.1 j (by have:=(hM' j hj).2;omega),λe=>by have:=(db.out.lt j e).1;have:=(hM' j hj).2;omega⟩) (by rw[ml.out];omega)
theorem atZ{α:Type}{R:aPK α}{sz:Nat}{w:World}{B n c:Nat}{A:Option Addr}{xs:List α}(h:SlR R sz w B (.slice A n c) xs):xs.length=n:=by
 obtain⟨A',c',h1,_⟩:=aj h;simp only[Value.slice.injEq] at h1;exact h1.2.1.symm
theorem Np.Q8:∀ (l:List Np.Span) (p:Option Int),Np.iZ p l=true->∀ (k:Nat) (s:Np.Span),l[k]?=some s->(0<=s.frm/\s.frm<s.til/\s.til<=20000000)/\∀ m q,k=m+1->l[m]?=some q->q.til<s.frm
 | [],_,_,k,s,h=>by simp at h
 | x::r,p,h,0,s,hs=>by
   rw[List.getElem?_cons_zero,Option.some.injEq] at hs;subst hs;unfold Np.iZ Np.il at h;simp only[Bool.and_eq_true,Qa] at h;exact⟨⟨h.1.1,h.1.2.1,h.1.2.2.1⟩,λm q hm=>by omega⟩
 | x::r,p,h,k+1,s,hs=>by
   unfold Np.iZ at h;rw[Bool.and_eq_true] at h;rw[List.getElem?_cons_succ] at hs;obtain⟨h1,h2⟩:=Np.Q8 r (some x.til) h.2 k s hs;refine⟨h1,λm q hm hq=>?_⟩;obtain rfl:k=m:=by omega
   cases k with
   | zero=>
    rw[List.getElem?_cons_zero,Option.some.injEq] at hq;subst hq
    cases r with
    | nil=>simp at hs
    | cons y r=>
     rw[List.getElem?_cons_zero,Option.some.injEq] at hs;subst hs;have h3:=h.2;unfold Np.iZ Np.il at h3;simp only[Bool.and_eq_true,Qa] at h3;exact h3.1.2.2.2
   | succ k=>
    rw[List.getElem?_cons_succ] at hq;exact h2 k q rfl hq
theorem Qy(A:Option Addr)(n c:Nat)(l:List Np.Span)(hl:Np.jp l=true)(w:World)(h:SlR bA 2 w w.heap.size (.slice A n c) l) :
 Calls prog 22 #[.slice A n c] w (aOJ w.heap.size w (.bool true)):=by
 unfold Np.jp at hl;rw[Bool.and_eq_true,Qa] at hl;have hn:l.length=n:=atZ h;have HN:=jq hn;have bY:n<=20000:=by omega
 have HA:=jq (Np.Q8 l none hl.2);have HL:=jq h;have lA:n<=c:=by
  obtain⟨A',c',h1,h2,_⟩:=aj h;simp only[Value.slice.injEq] at h1;omega
 clear hl hn h;go_enter func22,ntmps22;go_wp2_with fail;go_loopw [3] (λi wr=>∃ k:Nat,k<=n/\i = .int .i64 k/\Hid (Below w.heap.size w wr)) (λi _=>n - (intOf i).toNat)
 case atStart=>exact⟨0,jQ _,rfl,jq (vQ _ _)⟩
 case round=>
  obtain⟨k,hk,rfl,HB⟩:=hrel;by_cases aa:k<n
  ·obtain⟨x,ab⟩:∃ x,l[k]?=some x:=⟨_,aQ (by rw[HN.out];exact aa)⟩;have ci:=HL.out.keep bE HB.out;obtain⟨b,o,rfl⟩:=nS (k:=k) ci (by rw[HN.out];exact aa);obtain⟨bB,hat⟩:=ma ci ab;obtain⟨⟨g1,g2,g3⟩,g4⟩:=HA.out k x ab;have h0:=hat.c0;have h1:=hat.c1;have d1:decide (x.frm<0)=false:=aKX;have d2:decide (x.til<=x.frm)=false:=aKX;have d3:decide (20000000<x.til)=false:=aKX;have bF:(0:Int)<=(k:Int):=by omega
   have bL:(k:Int)<(n:Int):=by omega
   have eL:=jq HB.out;by_cases IM:0<k
   ·obtain⟨m,rfl⟩:∃ m,k=m+1:=⟨k - 1,by omega⟩;obtain⟨y,hy⟩:∃ y,l[m]?=some y:=⟨_,aQ (by rw[HN.out];omega)⟩;obtain⟨_,yh⟩:=ma ci hy;have p1:=yh.c1;have d4:decide (x.frm<=y.til)=false:=tQ (by have:=g4 m y rfl hy;omega);have gU:decide ((0:Int)<((m+1:Nat):Int))=true:=by simp
    have yq:(((m+1:Nat):Int) - 1)=(m:Int):=by omega
    clear ci hat yh ab hy g4 g1 g2 g3 IM;go_wp2_with fail;go_quiet (fail);go_wp2_with fail;go_roundw
    case rel=>exact⟨m+1+1,by omega,by go_num,jq (below_drewN eL.out _)⟩
    case measure=>simp[intOf] <;> omega
   ·have gU:decide ((0:Int)<(k:Int))=false:=by simp;omega
    have iz:decide (0<k)=false:=by simp;omega
    clear ci hat ab g4 g1 g2 g3 IM;go_wp2_with fail;go_quiet (fail);go_wp2_with fail;go_roundw
    case rel=>exact⟨k+1,by omega,by go_num,jq (below_drewN eL.out _)⟩
    case measure=>simp[intOf] <;> omega
  ·have d:decide ((n:Int)<=20000)=true:=aLQ;go_wp2_with fail;exact bodyPost_ret (v:=.bool true) (by simp[results,results22,go_sem];try omega) rfl ⟨rfl,HB.out⟩
end
section
open Go.RowKit Go.Shelf
def Np.qX(d:Int)(x:Np.Held):Np.Held:={ x with spans:=Np.gN x d }
theorem Np.Uy(h:Np.Hist):Np.jd h=(Np.pubAll h).map (Np.qX h.drift):=rfl
theorem Kd{α:Type}{l:List α}{k:Nat}{x:α}(hx:l[k]?=some x):l.take (k+1)=l.take k ++ [x]:=by
 obtain⟨hl,he⟩:=cQ.1 hx;rw[fQ hl,he]
def ry(A1:Option Addr)(n1 c1:Nat)(A2:Option Addr)(n2 c2:Nat)(s:ByteArray)(ty lf:Int)(A3:Option Addr)(n3 c3:Nat)(A4:Option Addr)(n4 c4:Nat)(dr st:Int)(zb zo nz cz k:Nat)(zs:ByteArray)(e5:Value)(i:Nat):Value:=[.agg #[.slice A1 n1 c1,.slice A2 n2 c2,.string s,.int .i64 ty,.int .i64 lf,.slice A3 n3 c3,.slice A4 n4 c4,.int .i64 dr,.int .i64 st],.slice (some ⟨zb,zo,none⟩) nz cz,.int .i64 (k:Nat),.pointer (some ⟨zb,zo+k,none⟩),.string zs,e5,undef].getD i undef
def qs(i:Nat):Nat:=[21,22,23,24,25,26,7].getD i 0
def VL:List Nat:=[0,1,2,3,4,5].map qs
theorem Dp:∀ i∈[0,1,2,3,4,5],qs i<50/\qs i∈VL:=by decide
theorem Ha:∀ i∈[0,1,2,3,4,5],∀ j∈[0,1,2,3,4,5],j≠i->qs i≠qs j:=by decide
theorem ajY(e:List Value)(h:Np.Hist)(dI:Np.VHist h)(w:World)(k:n9 w e h) :
 Calls prog 73 #[.agg e.toArray] w λe w'=>∃ A n c,e = .returned (.slice A n c)/\(Np.jd h).length=n/\SlR cM 8 w' w'.heap.size (.slice A n c) (Np.jd h)/\Below w.heap.size w w':=by
 obtain⟨A1,n1,c1,A2,n2,c2,s,ty,lf,A3,n3,c3,A4,n4,c4,dr,st,rfl,-,-,az,IG,Iy⟩:=yM k.rh;have pg:Hid (h.drift=dr):=jq (by
  obtain⟨hv,cv,s',dv,dx,he,_⟩:=k.rh;simp only[List.cons.injEq,Value.int.injEq,true_and,and_true] at he;exact he.2.2.2.2.2.2.2.1.symm)
 have kx:=jq dI;have po:=jq k.use;obtain⟨X,hX⟩:=aJZ w.heap.size;obtain⟨w1,ai⟩:=aJZ (w.alloc (.cells #[.slice A1 n1 c1,.slice A2 n2 c2,.string s,.int .i64 ty,.int .i64 lf,.slice A3 n3 c3,.slice A4 n4 c4,.int .i64 dr,.int .i64 st] 29));have ba:w1.heap.size=X+1:=by rw[<-ai,<-hX];simp
 have hb:Below w.heap.size w w1:=by rw[<-ai];exact (vQ _ _).alloc (bQ _) _
 have aD:=jq hb;have mj:=jq (k.keep hb);have aK:=jq (lP _ _ hX ai);have mg:Hid (0<=dr/\dr<=1000):=jq (by rw[<-pg.out];exact dI.drift);clear hb k az IG Iy dI;have k0:=aK.out 0 _ rfl;have k1:=aK.out 1 _ rfl;have k2:=aK.out 2 _ rfl;have k3:=aK.out 3 _ rfl;have k4:=aK.out 4 _ rfl;have k5:=aK.out 5 _ rfl;have k6:=aK.out 6 _ rfl;have k7:=aK.out 7 _ rfl;have k8:=aK.out 8 _ rfl;go_enter func73,ntmps73;go_wp2_with fail;clear ai;refine (aoQ _ h po.out.fewH w1 mj.out.rh).mono ?_;rintro e w2 ⟨mG,hb⟩;obtain⟨v',rfl,ho⟩:∃ v',e = .returned (.tuple #[v',.int .i64 0])/\cm w1.heap.size w2 v' (Np.apexes h.copies):=by
  rcases mG with ⟨_,v',h1,h2⟩ | ⟨h1,_⟩
  ·exact⟨v',h1,h2⟩
  ·exact absurd kx.out h1
 have jk:(Np.apexes h.copies).length<=1000:=by
  have h2:=GY h.copies;have h3:=po.out.copies;omega
 have DJ:SlR RTx 1 w2 w2.heap.size v' (Np.apexes h.copies):=ho.slr (by omega) (λx hx=>by
  obtain⟨c,hc,rfl⟩:=Np.yG.1 hx;have h1:=(Np.wn (Np.uq (kx.out.each c hc).zone).1).1;omega)
 obtain⟨zA,cz,rfl,rH,_⟩:=aj DJ;obtain⟨nz,yx⟩:=aJZ ((Np.apexes h.copies).length);rw[yx] at DJ jk rH |-;have iI:=jq DJ;have Ly:=jq yx;have ah:=jq (aD.out.trans (hb.mono aD.out.size));have ld:=jq (mj.out.keep hb);have bl:=jq (aK.out.keep hb (by omega));have aN:=hb.size;obtain⟨B,hB⟩:=aJZ w2.heap.size;have Ih:X<B:=by omega
 have CP:Hid (fM w2 B [.slice A1 n1 c1,.slice A2 n2 c2,.string s,.int .i64 ty,.int .i64 lf,.slice A3 n3 c3,.slice A4 n4 c4,.int .i64 dr,.int .i64 st] h):=jq (by rw[<-hB];exact ld.out.rh);obtain⟨i0,jh,di,we,ua⟩:=info_parts Tryz.infoHeldA;clear hb mG ho DJ yx k0 k1 k2 k3 k4 k5 k6 k7 k8;go_wp2_with fail;go_loopw [3,6] (λvo i wr=>∃ (k m:Nat) (A:Option Addr) (c:Nat) (M:Nat->Prop),k<=nz/\i = .int .i64 k/\vo = .slice A m c/\(Np.pubTo h k).length=m/\Hid (∀ j,M j->B<=j/\j<wr.heap.size)/\Hid (bp cM 8 57 B M wr (.slice A m c) ((Np.pubTo h k).map (Np.qX dr)))/\Hid (Below B w2 wr)) (λ_ i _=>nz - (intOf i).toNat)
 case atStart=>exact⟨0,0,none,0,λ_=>False,jQ _,rfl,rfl,rfl,jq (λj h=>h.elim),jq (bp.nil _),jq (vQ _ _)⟩
 case round=>
  obtain⟨k,m,A,c,M,hk,rfl,rfl,hm,pk,HO,HB⟩:=hrel;have al:=HB.out.size;have iz:m<=2100:=by rw[<-hm];exact po.out.pubTo k
  have cj:=jq hm;clear hm;by_cases aa:k<nz
  case neg=>
   have Gw:Hid (Np.pubTo h k=Np.pubAll h):=jq (Np.JP (by have:=Ly.out;omega));rw[Gw.out] at HO cj;have bi:Hid ((Np.pubAll h).map (Np.qX dr)=Np.jd h):=jq (by rw[Np.Uy,pg.out]);rw[bi.out] at HO;have fI:Hid ((Np.jd h).length=m):=jq (by rw[<-bi.out,List.length_map];exact cj.out);have HE:Hid (Below w.heap.size w wr):=aIX ah HB.out;go_wp2_with fail;refine bodyPost_ret (v:=.slice A m c) (by simp[results,results73,go_sem]) rfl ?_;exact⟨_,_,_,rfl,fI.out,HO.out.slr dL (by rw[fI.out];omega),HE.out⟩
  case pos=>
   obtain⟨z,ab⟩:∃ z,(Np.apexes h.copies)[k]?=some z:=⟨_,aQ (by have:=Ly.out;omega)⟩;have dy:=iI.out.later mS JY (show Below w2.heap.size w2 wr by rw[hB];exact HB.out);obtain⟨zb,zo,zs,rfl,bB,nJ,kg,e0⟩:=pW dy ab;have s9:=jq (And.intro nJ kg);have uP:=jq (Np.Qg ab);have C6:=jq (gQ ab);have SZ:Hid (fM wr B [.slice A1 n1 c1,.slice A2 n2 c2,.string s,.int .i64 ty,.int .i64 lf,.slice A3 n3 c3,.slice A4 n4 c4,.int .i64 dr,.int .i64 st] h):=jq (l9 _ _ _ _ _ CP.out HB.out);have dD:=jq (bl.out.keep HB.out (by omega));have bF:(0:Int)<=(k:Int):=by omega
   have bL:(k:Int)<(nz:Int):=by omega
   clear dy ab nJ kg;have dt:Below wr.heap.size wr wr.drew:=(vQ _ _).drew;obtain⟨w8,ik⟩:=aJZ wr.drew;rw[ik] at dt;have qH:w8.heap.size=wr.heap.size:=by rw[<-ik];rfl
   have gY:Hid (Below B w2 w8):=aIX HB dt;have FY:Hid (fM w8 B [.slice A1 n1 c1,.slice A2 n2 c2,.string s,.int .i64 ty,.int .i64 lf,.slice A3 n3 c3,.slice A4 n4 c4,.int .i64 dr,.int .i64 st] h):=jq (l9 _ _ _ _ _ SZ.out (dt.aKZ));have Gm:=jq (HO.out.keep ep dL ea dt);have k0:=dD.out 0 _ rfl;have k1:=dD.out 1 _ rfl;have k2:=dD.out 2 _ rfl;have k3:=dD.out 3 _ rfl;have k4:=dD.out 4 _ rfl;have k5:=dD.out 5 _ rfl;have k6:=dD.out 6 _ rfl;have k7:=dD.out 7 _ rfl;have k8:=dD.out 8 _ rfl;go_wp2_with fail;replace e0:=aIZ dt e0;clear k0 k1 k2 k3 k4 k5 k6 k7 k8;have fd:=jq (dD.out.keep dt (by omega));have k0:=fd.out 0 _ rfl;have k1:=fd.out 1 _ rfl;have k2:=fd.out 2 _ rfl;have k3:=fd.out 3 _ rfl;have k4:=fd.out 4 _ rfl;have k5:=fd.out 5 _ rfl;have k6:=fd.out 6 _ rfl;have k7:=fd.out 7 _ rfl;have k8:=fd.out 8 _ rfl;have aHZ:=jq dt;clear dt;refine Cy λa0 br=>?_;have kp:=jq br;have ut:=jq (show a0.eval (.tmp 1) = .pointer (some ⟨X,0,none⟩) by rw[br];rfl);have KB:=jq (show a0.eval (.tmp 4) = .slice (some ⟨zb,zo,none⟩) nz cz by rw[br];rfl);have fF:=jq (show a0.eval (.tmp 6) = .int .i64 (k:Nat) by rw[br];rfl);have HM:=jq (show a0.tmps.size=50 by rw[br];rfl);clear br;refine wp_region_any (by kernel_rfl) ?_
   try rw[show ({ heap:=wr.heap,tape:=wr.tape,drawn:=wr.drawn+1,os:=wr.os,output:=wr.output } : World)=w8 from ik]
   try rw[ik]
   refine gM 5 (D:=[0,1,2,3,4]) (val:=ry A1 n1 c1 A2 n2 c2 s ty lf A3 n3 c3 A4 n4 c4 dr st zb zo nz cz k zs undef) Dp Ha (tx HM.out) (by kernel_rfl) ?_ ?_
   ·intro i aU bd o ho a' hb aM;have k1':=aLY hb ut.out;have k4':=aLY hb KB.out;have k6':=aLY hb fF.out;simp[Act.eval] at k1' k4' k6'
    repeat' (rcases aU with _ | ⟨_,aU⟩)
    all_goals first
     | (exfalso;simp at bd;done)
     | (cases ho
        try simp[Act.eval,Region.binds,ry,qs] at aM
        refine gE (by simp[Region.wanted]) ?_;simp[Oper.quietAt,Oper.quietUpon,execOp,go_sem,ry,k1',k4',k6',k0,k1,k2,k3,k4,k5,k6,k7,k8,e0,bF,bL,aM])
   ·intro f listed a' hH hr hv;have av0:=hv 0;have av4:=hv 4;simp[Act.eval,ry,qs] at av0 av4;simp only[wpOp];simp[Region.wanted];refine .inl ?_;simp[Oper.wp,go_sem,av0,av4];refine (UC B _ h kx.out.full po.out.fewH.1 zs s9.out.2 (by rw[s9.out.1];exact po.out.pairs z) po.out.fewH.2 w8 (by omega) FY.out).mono ?_;rw[s9.out.1];rintro e w9 ⟨vl,rfl,iO,hb⟩;have aP:=iO.all dL;obtain⟨Ap,cp,rfl,_,_⟩:=aj aP;obtain⟨np,IW⟩:=aJZ ((Np.pub h.copies z).length);rw[IW] at iO aP |-;have bi:=jq iO;have jR:=jq IW;have yE:=hb.size;have fH:=jq hb;replace e0:=aIZ hb e0;clear k0 k1 k2 k3 k4 k5 k6 k7 k8;have fe:=jq (fd.out.keep hb (by omega));have k0:=fe.out 0 _ rfl;have k1:=fe.out 1 _ rfl;have k2:=fe.out 2 _ rfl;have k3:=fe.out 3 _ rfl;have k4:=fe.out 4 _ rfl;have k5:=fe.out 5 _ rfl;have k6:=fe.out 6 _ rfl;have k7:=fe.out 7 _ rfl;have k8:=fe.out 8 _ rfl;clear iO aP hb IW;dsimp only;refine gM 6 (D:=[0,1,2,3,4,5]) (val:=ry A1 n1 c1 A2 n2 c2 s ty lf A3 n3 c3 A4 n4 c4 dr st zb zo nz cz k zs (.slice Ap np cp)) Dp Ha (hH.next Dp Ha hr) (by kernel_rfl) ?_ ?_
    ·intro i aU bd o ho a' hb aM;have k1':=aLY hb ut.out;have k4':=aLY hb KB.out;have k6':=aLY hb fF.out;simp[Act.eval] at k1' k4' k6'
     repeat' (rcases aU with _ | ⟨_,aU⟩)
     all_goals first
      | (exfalso;simp at bd;done)
      | (cases ho
         try simp[Act.eval,Region.binds,ry,qs] at aM
         refine gE (by simp[Region.wanted]) ?_;simp[Oper.quietAt,Oper.quietUpon,execOp,go_sem,ry,k1',k4',k6',k0,k1,k2,k3,k4,k5,k6,k7,k8,e0,bF,bL,aM])
    ·intro f listed a' hH hr hv;have av5:=hv 5;simp[Act.eval,ry,qs] at av5;simp only[wpOp];simp[Region.wanted];refine .inl ?_;simp[Oper.wp,execOp,go_sem,av5];refine wT hH hr HM.out Dp (by kernel_rfl) λew=>?_
     ·rw[ew,kp.out];simp[lF,Act.put,ry,qs];clear hv hH ew;clear e0 k0 k1 k2 k3 k4 k5 k6 k7 k8;have Gn:=jq (Gm.out.keep ep dL ea fH.out);have XO:m+np<=2100:=by
       have h1:=po.out.pubTo (k+1);rw[uP.out,List.length_append,cj.out,jR.out] at h1;exact h1
      go_wp2_with fail;clear hk;go_loopw [3,8] (λvo i wr=>∃ (j m':Nat) (A':Option Addr) (c':Nat) (M':Nat->Prop),j<=np/\i = .int .i64 j/\vo = .slice A' m' c'/\m'=m+j/\w9.heap.size<=wr.heap.size/\Hid (∀ q,M' q->(B<=q/\(q<w8.heap.size\/w9.heap.size<=q))/\q<wr.heap.size)/\Hid (Leaves' (λq=>M' q/\q<w8.heap.size) w9 wr M')/\Hid (bp cM 8 57 B M' wr (.slice A' m' c') ((Np.pubTo h k++(Np.pub h.copies z).take j).map (Np.qX dr)))/\Hid (Below B w9 wr)) (λ_ i _=>np - (intOf i).toNat)
      case atStart=>exact⟨0,m,_,_,M,jQ _,rfl,rfl,rfl,bQ _,jq (λq hq=>by have:=pk.out q hq;omega),jq ⟨rfl,rfl,rfl,bQ _,λq hq hM=>⟨λe=>hM ⟨e,by have:=pk.out q e;omega⟩,rfl⟩⟩,jq (by rw[List.take_zero,List.append_nil];exact Gn.out),jq (vQ _ _)⟩
      case round=>
       obtain⟨j,m',A',c',M',hj,rfl,rfl,rfl,aZX,xw,zp,HO',HB'⟩:=hrel;by_cases lz:j<np
       case neg=>
        have zJ:Hid ((Np.pub h.copies z).take j=Np.pub h.copies z):=jq (kQ (by rw[jR.out];omega));rw[zJ.out,<-uP.out] at HO';have kK:j=np:=by omega
        subst kK;have ra:Hid (Below B w2 wr):=jq (gY.out.trans ((fH.out.aKZ).trans HB'.out));go_wp2_with fail;go_roundw
        case measure=>simp[intOf] <;> omega
        case rel=>exact⟨k+1,m+j,A',c',M',by omega,by go_num,rfl,by rw[uP.out,List.length_append,cj.out,jR.out],jq (λq hq=>by have:=xw.out q hq;omega),HO',ra⟩
       case pos=>
        obtain⟨x,ab⟩:∃ x,(Np.pub h.copies z)[j]?=some x:=⟨_,aQ (by rw[jR.out];exact lz)⟩;have mX:=jq (Np.P9 kx.out po.out (Np.JG.2 ⟨z,C6.out,gQ ab⟩));have mZ:Hid ((Np.pubTo h k++(Np.pub h.copies z).take (j+1)).map (Np.qX dr)=(Np.pubTo h k++(Np.pub h.copies z).take j).map (Np.qX dr) ++ [Np.qX dr x]):=jq (by rw[Kd ab,<-List.append_assoc,List.map_append,List.map_singleton]);have OW:=bi.out (λq=>M' q/\q<w8.heap.size) (λq hq=>⟨(xw.out q hq.1).1.1,hq.2⟩);have Yh:=zp.out.slr ep dL ea OW;obtain⟨A'',c'',hA'',_,_,aY⟩:=Yh;simp only[Value.slice.injEq] at hA'';obtain⟨rfl,-,rfl⟩:=hA'';obtain⟨b,o,ec,rfl,Io,hlen,hce,yz⟩:=aY j x ab;have GC:=jq yz;obtain⟨zs2,sn,dv,sv,fv,pv,rfl,_,_,ay,gu,aT,aR,iy,ii⟩:=yz;obtain⟨dA,dn,dc,rfl⟩:=uj aT;obtain⟨gA,gn,gc,rfl⟩:=uj aR;obtain⟨fA,fn,fc,rfl⟩:=uj iy;obtain⟨pA,pn,pc,rfl⟩:=uj ii;have oh:=jq (aR.all yN);have sN:=jq (iy.all (λ_ _ _ _ _ _ _ h=>h));have f0:=(qU (hce 0 _ rfl)).2;have f1:=(qU (hce 1 _ rfl)).2;have f2:=(qU (hce 2 _ rfl)).2;have f3:=(qU (hce 3 _ rfl)).2;have f4:=(qU (hce 4 _ rfl)).2;have f5:=(qU (hce 5 _ rfl)).2;have f6:=(qU (hce 6 _ rfl)).2;have f7:=(qU (hce 7 _ rfl)).2;simp only[Nat.add_zero] at f0;have IM:(0:Int)<=(j:Int):=by omega
        have aRZ:(j:Int)<(np:Int):=by omega
        obtain⟨E,hE⟩:=aJZ wr.heap.size;obtain⟨w5,aJ⟩:=aJZ (wr.alloc (.cells #[.string zs2,.string sn,.int .i64 x.signed.set.type,.int .i64 x.signed.set.life,.slice dA dn dc,.slice gA gn gc,.slice fA fn fc,.slice pA pn pc] 57));have av:Below wr.heap.size wr w5:=by rw[<-aJ];exact (vQ _ _).alloc (bQ _) _
        have kT:w5.heap.size=E+1:=by rw[<-aJ,<-hE];simp
        have ja:=jq (lP _ _ hE aJ);have gb:Hid (w5.heap[E]?=some (.cells #[.string zs2,.string sn,.int .i64 x.signed.set.type,.int .i64 x.signed.set.life,.slice dA dn dc,.slice gA gn gc,.slice fA fn fc,.slice pA pn pc] 57 (0,0))):=jq (by rw[<-aJ,<-hE];exact heap_alloc_new _ _);have cG:=jq av;have dp:=jq ((fe.out.keep HB'.out (by omega)).keep av (by omega));have k7:=dp.out 7 _ rfl;have d0:=ja.out 0 _ rfl;have d1:=ja.out 1 _ rfl;have d2:=ja.out 2 _ rfl;have d3:=ja.out 3 _ rfl;have d4:=ja.out 4 _ rfl;have d5:=ja.out 5 _ rfl;have d6:=ja.out 6 _ rfl;have d7:=ja.out 7 _ rfl;clear ab OW aY hce ay gu aT aR iy ii av hlen;go_wp2_with fail;clear aJ f0 f1 f2 f3 f4 f5 f6 f7 d0 d1 d2 d3 d4 d5 d6 d7;refine (amY x mX.out.1 dr mg.out mX.out.2.1 mX.out.2.2 sn dA gA dn dc gn gc _ w5 (oh.out.later bH cE cG.out) (sN.out.later bE dP cG.out)).mono ?_;rintro e w6 ⟨v6,rfl,ig,hb⟩;obtain⟨A6,c6,rfl⟩:=ig.form;obtain⟨n6,pL⟩:=aJZ ((Np.gN x dr).length);rw[pL] at ig |-;have kf:=hb.size;have xC:=jq ig;have zr:=jq pL;have sL:=jq (ja.out.keep hb (by omega));have BF:w6.heap[E]?=some (.cells #[.string zs2,.string sn,.int .i64 x.signed.set.type,.int .i64 x.signed.set.life,.slice dA dn dc,.slice gA gn gc,.slice fA fn fc,.slice pA pn pc] 57 (0,0)):=(hb.block E (by omega)).trans gb.out;have q7:=sL.out 7 _ rfl;have z7:w6.frozen? ⟨E,7,none⟩=false:=by simp[World.frozen?,BF]
        have Sk:Hid (Below wr.heap.size wr w6):=aIX cG hb;have d0:=sL.out 0 _ rfl;have d1:=sL.out 1 _ rfl;have d2:=sL.out 2 _ rfl;have d3:=sL.out 3 _ rfl;have d4:=sL.out 4 _ rfl;have d5:=sL.out 5 _ rfl;have d6:=sL.out 6 _ rfl;obtain⟨wR,nH⟩:=aJZ ((w6.setCell ⟨E,7,none⟩ (.slice A6 n6 c6)).alloc (.cells #[.string zs2,.string sn,.int .i64 x.signed.set.type,.int .i64 x.signed.set.life,.slice dA dn dc,.slice gA gn gc,.slice fA fn fc,.slice A6 n6 c6] 57));have YI:wR.heap.size=w6.heap.size+1:=by rw[<-nH];simp[World.setCell]
        have pd:Hid (Below wr.heap.size wr wR):=jq (by rw[<-nH];exact (Sk.out.setCell (by dsimp only;omega) _).alloc (by simp[World.setCell];omega) _);have FI:Hid (gG wR w6.heap.size 0 [.string zs2,.string sn,.int .i64 x.signed.set.type,.int .i64 x.signed.set.life,.slice dA dn dc,.slice gA gn gc,.slice fA fn fc,.slice A6 n6 c6]):=jq (Dj (w:=w6.setCell ⟨E,7,none⟩ (.slice A6 n6 c6)) _ _ (by simp[World.setCell]) nH.symm);have Gq:Hid (aw w5.heap.size wR (.slice A6 n6 c6) (Np.gN x dr)):=jq (cX ig (λg hg=>by
         have h1:=(World.ownsRow.lt ig g hg);rw[<-nH];exact (((vQ (w6.setCell ⟨E,7,none⟩ (.slice A6 n6 c6)).heap.size _).alloc (bQ _) _).block g (by simp[World.setCell];omega)).trans (wQ _ _ _ _ (by dsimp only;omega))))
        have C1:Hid (cM (bn wR M') wR.heap.size [.string zs2,.string sn,.int .i64 x.signed.set.type,.int .i64 x.signed.set.life,.slice dA dn dc,.slice gA gn gc,.slice fA fn fc,.slice A6 n6 c6] (Np.qX dr x)):=jq (by
         have h1:=(Leaves'.of_below (M:=M') pd.out).read ep dL ea GC.out;have h2:SlR bA 2 (bn wR M') wR.heap.size (.slice A6 n6 c6) (Np.gN x dr):=(Gq.out.around (n:=wr.heap.size) (by omega) (by rw[zr.out];have:=mO (x.fresh.map (Np.fO x.signed dr));have h2:=zr.out;unfold Np.gN at h2;rw[List.length_map] at this;have:=mX.out.2.2;omega)) M' (λq hq=>⟨jQ _,(xw.out q hq).2⟩);exact QF h1 h2)
        obtain⟨ys,B3⟩:=aJZ ((Np.pubTo h k++(Np.pub h.copies z).take j).map (Np.qX dr));obtain⟨y,hy⟩:=aJZ (Np.qX dr x);rw[B3] at HO' mZ;rw[hy] at mZ C1;have Ty:=jq (HO'.out.keep ep dL ea pd.out);have fJ:=jq HO'.out.lt;have Ga:Hid (ys.length=m+j):=jq (by rw[<-B3,List.length_map,List.length_append,cj.out,List.length_take,jR.out];omega);have GM:=jq nH;clear ig hb pL BF k7 B3 hy nH;go_wp2_with (at_builtin;rw[GM.out];refine Fg (R:=cM) (M:=M') wR rfl _ _ 52 rfl B 57 i0 (.agg #[.string ⟨#[]⟩,.string ⟨#[]⟩,.int .i64 0,.int .i64 0,.slice none 0 0,.slice none 0 0,.slice none 0 0,.slice none 0 0]) 144 underlying52 jh di we ua rfl (by decide) (.slice A' (m+j) c') ys rfl Ty.out (some ⟨w6.heap.size,0,none⟩) 1 [y] rfl (Cg rfl C1.out FI.out) Cf (by rw[Ga.out];simp[maxLen];omega) (by rw[Ga.out];simp;omega) (by omega) ep dL ea ?_;intro v8 w8' dK cr gJ;obtain⟨A8,c8,rfl⟩:=bp.formN dK (n:=m+(j+1)) (by rw[List.length_append,Ga.out];simp;omega);have H8:=jq (And.intro dK (And.intro cr gJ));clear dK cr gJ);have YH:=H8.out.2.1.size;have aO:Hid (Below B w9 w8'):=jq (HB'.out.trans ((pd.out.aKZ).trans ((vQ _ _).grown H8.out.2.1 (by omega) (λg hg=>(fJ.out g hg).1))));have Tk:Hid (Leaves' (λq=>(M' q\/(Value.slice A8 (m+(j+1)) c8).ownBlock=some q)/\q<w8.heap.size) w9 w8' (λq=>M' q\/(Value.slice A8 (m+(j+1)) c8).ownBlock=some q)):=jq (by
         have hown:∀ q,(Value.slice A8 (m+(j+1)) c8).ownBlock=some q->M' q\/wR.heap.size=q:=λq hq=>by
          rcases H8.out.2.2 with h | h
          ·exact .inl (by obtain⟨_,_,_,h3,_⟩:=HO'.out;exact h3 q (h ▸ hq))
          ·rw[h] at hq;exact .inr (Option.some.inj hq)
         refine⟨H8.out.2.1.os.trans (pd.out.os.trans zp.out.os),H8.out.2.1.tape.trans (pd.out.tape.trans zp.out.tape),H8.out.2.1.output.trans (pd.out.output.trans zp.out.output),by have:=aO.out.size;omega,λq hq hm=>?_⟩;have hm':¬ M' q:=λe=>hm ⟨.inl e,by rcases (xw.out q e).1.2 with h | h <;> omega⟩;obtain⟨h1,h2⟩:=zp.out.keep q hq (λe=>hm' e.1);refine⟨λe=>?_,?_⟩
         ·rcases e with e | e
          ·exact hm' e
          ·rcases hown q e with h | h
           ·exact hm' h
           ·omega
         ·refine (H8.out.2.1.block q (by omega) (λe=>hm' ?_)).trans ((pd.out.block q (by omega)).trans h2);obtain⟨_,_,_,h3,_⟩:=HO'.out;exact h3 q e.symm)
        go_wp2_with fail;go_roundw
        case measure=>simp[intOf] <;> omega
        case rel=>exact⟨j+1,m+(j+1),A8,c8,_,by omega,by go_num,rfl,rfl,by omega,jq (λq hq=>by
         rcases hq with hq | hq
         ·have:=xw.out q hq;omega
         ·have:=H8.out.1.lt q hq
          rcases H8.out.2.2 with h | h
          ·have h3:=(xw.out q (by obtain⟨_,_,_,h3,_⟩:=HO'.out;exact h3 q (h ▸ hq)));omega
          ·rw[h] at hq;have:=Option.some.inj hq;omega),Tk,jq (by rw[mZ.out];exact H8.out.1),aO⟩
end
section
open Go.RowKit Go.Shelf Go.MapKept
attribute [local go_sem] Oper.semAt_some HC.cells
theorem Q1{α:Type}{R:aPK α}{sz B:Nat}{w w':World}{v:Value}{xs:List α}(h:SlR R sz w B v xs)(he:w'.heap=w.heap)(hR:∀ e x,R w B e x->R w' B e x:=by exact λ_ _ h=>h):SlR R sz w' B v xs:=by
 obtain⟨A,c,h1,h2,h3,h4⟩:=h;refine⟨A,c,h1,h2,h3,λi x hx=>?_⟩;obtain⟨b,o,e,h5,h6,h7,h8,h9⟩:=h4 i x hx;exact⟨b,o,e,h5,h6,h7,λj v hj=>(iQ (by rw[he])).trans (h8 j v hj),hR _ _ h9⟩
end
end Go.Proofs.YtfnopgdcaanaiaaGreatDoor
