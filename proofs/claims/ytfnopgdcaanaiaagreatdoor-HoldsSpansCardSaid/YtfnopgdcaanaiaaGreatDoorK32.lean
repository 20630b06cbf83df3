/- Parts of the proof. No condition. -/
import Derived.Test.YtfnopgdcaanaiaaGreatDoorK22
import Derived.Test.YtfnopgdcaanaiaaGreatDoorK28
import Derived.Test.YtfnopgdcaanaiaaGreatDoorK29
set_option linter.all false
set_option maxRecDepth 100000
set_option maxHeartbeats 8000000
namespace Go.Proofs.YtfnopgdcaanaiaaGreatDoor
open Go.Proofs.Tryz
section
open Go.RowKit Go.Shelf
attribute [local go_sem] Oper.semAt_some CV.cells
def jk(X:Nat)(A1:Option Addr)(n1 c1:Nat)(s:ByteArray)(ty life:Int)(A3:Option Addr)(n3 c3:Nat)(A4:Option Addr)(n4 c4:Nat)(e:Nat->Value)(i:Nat):Value:=[.pointer (some ⟨X,0,none⟩),.slice A1 n1 c1,e 2,.pointer (some ⟨X,2,none⟩),.agg #[.string s,.int .i64 ty,.int .i64 life,.slice A3 n3 c3],.pointer (some ⟨X,6,none⟩),.slice A4 n4 c4,e 7,.agg #[(e 2),.slice none 0 0,.string s,.int .i64 ty,.int .i64 life,.slice A3 n3 c3,(e 7)],e 9,undef].getD i undef
def sZ(i:Nat):Nat:=[25,26,27,28,29,30,31,32,33,6,0].getD i 0
def lU(i:Nat):List Nat:=[[],[],[2],[],[],[],[],[7],[2,7],[9],[]].getD i []
theorem Mo(X:Nat)(A1:Option Addr)(n1 c1:Nat)(s:ByteArray)(ty life:Int)(A3:Option Addr)(n3 c3:Nat)(A4:Option Addr)(n4 c4:Nat)(i:Nat)(e e':Nat->Value)(h:∀ j∈lU i,e j=e' j):jk X A1 n1 c1 s ty life A3 n3 c3 A4 n4 c4 e i=jk X A1 n1 c1 s ty life A3 n3 c3 A4 n4 c4 e' i:=by
 match i,h with
 | 0,_=>rfl
 | 1,_=>rfl
 | 2,h=>simp[jk,h 2 (by simp[lU])]
 | 3,_=>rfl
 | 4,_=>rfl
 | 5,_=>rfl
 | 6,_=>rfl
 | 7,h=>simp[jk,h 7 (by simp[lU])]
 | 8,h=>simp[jk,h 2 (by simp[lU]),h 7 (by simp[lU])]
 | 9,h=>simp[jk,h 9 (by simp[lU])]
 | 10,_=>rfl
 | _+11,_=>rfl
def Dw(v2 v7:Value)(b i:Nat):Value:=if i=2 then v2 else if i=7 then v7 else .pointer (some ⟨b,0,none⟩)
theorem UU{e:Nat->Value}{v2 v7:Value}{b i j:Nat}(h2:e 2=v2)(h7:e 7=v7)(h9:e 9 = .pointer (some ⟨b,0,none⟩))(hj:j∈lU i):e j=Dw v2 v7 b j:=by
 have hT:j=2\/j=7\/j=9:=by
  match i,hj with
  | 0,hj | 1,hj | 2,hj | 3,hj | 4,hj | 5,hj | 6,hj | 7,hj | 8,hj | 9,hj | 10,hj=>simp[lU] at hj <;> omega
  | _+11,hj=>simp[lU] at hj
 rcases hT with rfl | rfl | rfl
 ·exact h2
 ·exact h7
 ·exact h9
def iu(zb:Nat)(zv:Value)(ss:ByteArray)(sty slf:Int)(dA:Option Addr)(dn dc:Nat)(gA:Option Addr)(gn gc:Nat)(e3:Value)(e4:Value)(e5:Value)(i:Nat):Value:=[.pointer (some ⟨zb,1,none⟩),zv,.agg #[.string ss,.int .i64 sty,.int .i64 slf,.slice dA dn dc,.slice gA gn gc],e3,e4,e5,.pointer (some ⟨zb,1,none⟩),undef].getD i undef
def gO(i:Nat):Nat:=[56,57,58,59,60,61,62,0].getD i 0
def Aw:List Nat:=[0,1,2,6,3,4,5].map gO
theorem nJ:∀ i∈[0,1,2,6,3,4,5],gO i<74/\gO i∈Aw:=by decide
theorem uX:∀ i∈[0,1,2,6,3,4,5],∀ j∈[0,1,2,6,3,4,5],j≠i->gO i≠gO j:=by decide
def Kr(a0:Act)(X:Nat)(A1:Option Addr)(n1 c1:Nat)(s:ByteArray)(ty life:Int)(A3:Option Addr)(n3 c3:Nat)(A4:Option Addr)(n4 c4:Nat)(h:Np.Hist)(Zt:Nat)(w2:World):Exit->Act->World->Prop:=λe a' w'=>e=Exit.normal/\∃ A5 c5 A6 c6 b,a'=lD a0 ([0,1,3,4,5,6,8,2,7,9].map λi=>(sZ i,jk X A1 n1 c1 s ty life A3 n3 c3 A4 n4 c4 (Dw (.slice A5 n1 c5) (.slice A6 n4 c6) b) i))/\bn gz 3 101 Zt Zt w' (.slice A5 n1 c5) h.hosts/\bn gB 1 3 Zt Zt w' (.slice A6 n4 c6) h.hints/\w'.heap[b]?=some (.cells #[.slice A5 n1 c5,.slice none 0 0,.string s,.int .i64 ty,.int .i64 life,.slice A3 n3 c3,.slice A6 n4 c6] 68)/\Zt<=b/\b<w'.heap.size/\(Value.slice A5 n1 c5).ownBlock≠some b/\(Value.slice A6 n4 c6).ownBlock≠some b/\Below Zt w2 w'
theorem bn.weakR{α:Type}{R:World->Nat->List Value->α->Prop}{sz:Nat}{e:TypeId}{base B base':Nat}{w:World}{v:Value}{xs:List α}(h:bn R sz e base B w v xs)(hb:base'<=base)(hr:∀ r x,R w B r x->R w base' r x):bn R sz e base' base' w v xs:=by
 obtain⟨rows,h1,h2,h3⟩:=h;exact⟨rows,h1,⟨h2.1,by
  rcases h2.2 with h | ⟨g,cap,cur,h4,h5,h6⟩
  ·exact .inl h
  ·exact .inr ⟨g,cap,cur,h4,yQ hb h5,h6⟩⟩,λi r x hr' hx=>⟨(h3 i r x hr' hx).1,hr _ _ (h3 i r x hr' hx).2⟩⟩
theorem bn.ltR{α:Type}{R:World->Nat->List Value->α->Prop}{sz:Nat}{e:TypeId}{base B:Nat}{w:World}{v:Value}{xs:List α}(h:bn R sz e base B w v xs):∀ g,v.ownBlock=some g->base<=g/\g<w.heap.size:=by
 obtain⟨rows,h1,h2,h3⟩:=h;exact h2.lt
theorem bn.heapR{α:Type}{R:World->Nat->List Value->α->Prop}{sz:Nat}{e:TypeId}{base B:Nat}{w w':World}{v:Value}{xs:List α}(h:bn R sz e base B w v xs)(hk:∀ g,v.ownBlock=some g->w'.heap[g]?=w.heap[g]?)(hr:∀ r x,R w B r x->R w' B r x):bn R sz e base B w' v xs:=by
 obtain⟨rows,h1,h2,h3⟩:=h;exact⟨rows,h1,gp h2 hk,λi r x hr' hx=>⟨(h3 i r x hr' hx).1,hr _ _ (h3 i r x hr' hx).2⟩⟩
structure At3Inv(h:Np.Hist)(Zt n1 n4:Nat)(w2:World)(A:List Nat)(e:Nat->Value)(u:World):Prop where
 below:Below Zt w2 u
 lt:Zt<=u.heap.size
 hosts:2∈A->∃ A5 c5,e 2 = .slice A5 n1 c5/\bn gz 3 101 Zt Zt u (e 2) h.hosts
 hints:7∈A->∃ A6 c6,e 7 = .slice A6 n4 c6/\bn gB 1 3 Zt Zt u (e 7) h.hints
 box:9∈A->∃ b,e 9 = .pointer (some ⟨b,0,none⟩)/\Zt<=b/\b<u.heap.size/\u.heap[b]?=some (.cells #[.slice none 0 0,.slice none 0 0,.string ⟨#[]⟩,.int .i64 0,.int .i64 0,.slice none 0 0,.slice none 0 0] 68)/\(2∈A->(e 2).ownBlock≠some b)/\(7∈A->(e 7).ownBlock≠some b)
theorem At3Inv.keep{h:Np.Hist}{Zt n1 n4:Nat}{w2:World}{A:List Nat}{e:Nat->Value}{u u':World}(k:At3Inv h Zt n1 n4 w2 A e u)(hb:Below u.heap.size u u'):At3Inv h Zt n1 n4 w2 A e u':=
 ⟨k.below.trans (hb.mono k.lt),yQ k.lt hb.size,λh=>(k.hosts h).imp λ_ h=>h.imp λ_ h=>⟨h.1,h.2.keep km hb k.lt⟩,λh=>(k.hints h).imp λ_ h=>h.imp λ_ h=>⟨h.1,h.2.keep lG hb k.lt⟩,λh=>(k.box h).imp λb h=>⟨h.1,h.2.1,lQ h.2.2.1 hb.size,(hb.block b h.2.2.1).trans h.2.2.2.1,h.2.2.2.2⟩⟩
theorem At3Inv.host{h:Np.Hist}{Zt n1 n4:Nat}{w2:World}{A:List Nat}{e:Nat->Value}{u u':World}(k:At3Inv h Zt n1 n4 w2 A e u)(_:2∉A)(hb:Below u.heap.size u u'){A5:Option Addr}{c5:Nat}(ho:bn gz 3 101 u.heap.size u.heap.size u' (.slice A5 n1 c5) h.hosts):At3Inv h Zt n1 n4 w2 (2::A) (uc e 2 (.slice A5 n1 c5)) u':=by
 have k2:=k.keep hb;refine⟨k2.below,k2.lt,λ_=>⟨A5,c5,rfl,ho.weakR k.lt (λ_ _ h=>h)⟩,λh7=>k2.hints (by simpa using h7),λh9=>?_⟩;obtain⟨b,h1,h2,h3,h4,h5,h6⟩:=k2.box (by simpa using h9);obtain⟨b',h1',_,h3',_⟩:=k.box (by simpa using h9);rw[h1] at h1'
 cases h1'
 exact⟨b,h1,h2,h3,h4,(λ_=>λe=>by have:=(ho.ltR _ e).1;omega),λh7=>h6 (by simpa using h7)⟩
theorem At3Inv.hint{h:Np.Hist}{Zt n1 n4:Nat}{w2:World}{A:List Nat}{e:Nat->Value}{u u':World}(k:At3Inv h Zt n1 n4 w2 A e u)(_:7∉A)(hb:Below u.heap.size u u'){A6:Option Addr}{c6:Nat}(ho:bn gB 1 3 u.heap.size u.heap.size u' (.slice A6 n4 c6) h.hints):At3Inv h Zt n1 n4 w2 (7::A) (uc e 7 (.slice A6 n4 c6)) u':=by
 have k2:=k.keep hb;refine⟨k2.below,k2.lt,λh2=>k2.hosts (by simpa using h2),λ_=>⟨A6,c6,rfl,ho.weakR k.lt (λ_ _ h=>h)⟩,λh9=>?_⟩;obtain⟨b,h1,h2,h3,h4,h5,h6⟩:=k2.box (by simpa using h9);obtain⟨b',h1',_,h3',_⟩:=k.box (by simpa using h9);rw[h1] at h1'
 cases h1'
 exact⟨b,h1,h2,h3,h4,λh2=>h5 (by simpa using h2),(λ_=>λe=>by have:=(ho.ltR _ e).1;omega)⟩
theorem At3Inv.made{h:Np.Hist}{Zt n1 n4:Nat}{w2:World}{A:List Nat}{e:Nat->Value}{u:World}(k:At3Inv h Zt n1 n4 w2 A e u):At3Inv h Zt n1 n4 w2 (9::A) (uc e 9 (.pointer (some ⟨u.heap.size,0,none⟩))) (u.alloc (.cells #[.slice none 0 0,.slice none 0 0,.string ⟨#[]⟩,.int .i64 0,.int .i64 0,.slice none 0 0,.slice none 0 0] 68)):=by
 have hb:Below u.heap.size u (u.alloc (.cells #[.slice none 0 0,.slice none 0 0,.string ⟨#[]⟩,.int .i64 0,.int .i64 0,.slice none 0 0,.slice none 0 0] 68)):=(vQ _ _).alloc (bQ _) _;have k2:=k.keep hb;refine⟨k2.below,k2.lt,λh2=>k2.hosts (by simpa using h2),λh7=>k2.hints (by simpa using h7),λ_=>⟨u.heap.size,rfl,k.lt,by simp,heap_alloc_new _ _,λh2=>?_,λh7=>?_⟩⟩
 ·obtain⟨A5,c5,h3,h4⟩:=k.hosts (by simpa using h2);exact λe=>by have:=(h4.ltR _ e).2;omega
 ·obtain⟨A6,c6,h3,h4⟩:=k.hints (by simpa using h7);exact λe=>by have:=(h4.ltR _ e).2;omega
def AtM(b _B:Nat)(zv:Value)(S:Nat->Prop)(k:Nat):Prop:=k=b\/zv.ownBlock=some k\/¬ S k
theorem axY{w:World}{B:Nat}{L:List (CV×Np.Copy)}(h:∀ x∈L,CVOf w B x.1 x.2)(t:Int):(Np.wW (L.map (·.2)) t).map Np.mp=(L.filter λx=>decide (x.1.frm<=t)&&decide (t<x.1.til)).map λx:CV×Np.Copy=>Np.mp x.2:=by
 induction L with
 | nil=>rfl
 | cons x L ih=>
  have hx:=h x (by simp);have ih:=ih (λy hy=>h y (mQ _ hy));unfold Np.wW at ih |-;rw[List.map_cons,List.filter_cons,List.filter_cons,hx.frm,hx.til];split
  ·rw[List.map_cons,List.map_cons,ih]
  ·exact ih
def AtZ(zb:Nat)(zv:Value)(k:Nat):Prop:=k<=zb\/zv.ownBlock=some k
theorem Tryz.infoSignedAt:(prog.info? 42).map (λi=>(i.zero,i.size,i.bytes))=some (some (.agg #[.string ⟨#[]⟩,.int .i64 0,.int .i64 0,.slice none 0 0,.slice none 0 0]),5,80):=by kernel_rfl
def AtI(w6:World)(b:Nat)(wc:Value->Array Value)(pre:List (CV×Np.Copy))(S:Nat->Prop)(W:World):Prop:=
 ∃ zv,S b/\(∀ g,zv.ownBlock=some g->S g)/\(∀ k,S k->k=b\/w6.heap.size<=k)/\W.heap[b]?=some (.cells (wc zv) 68)/\bE lT 3 72 w6.heap.size (AtM b w6.heap.size zv S) W zv (pre.map λx=>Np.mp x.2)/\RdStep (λk=>k=b) w6 W
theorem Ms(w6:World)(b:Nat)(wc:Value->Array Value)(_hb:b<w6.heap.size):fq w6.heap.size (AtI w6 b wc):=by
 rintro pre S W W' ⟨zv,h1,h2,h3,h4,h5,h6⟩ av;refine⟨zv,h1,h2,h3,(av.keep b (eQ.1 h4).1 (.inr h1)).trans h4,h5.leaves mq oh mr ⟨av.os,av.tape,av.output,av.size,λi hi hm=>⟨hm,av.keep i hi ?_⟩⟩ (λg hg=>⟨av.keep g (h5.lt g hg).2 (.inr (h2 g hg)),.inr (.inl hg)⟩),⟨av.os.trans h6.os,av.tape.trans h6.tape,av.output.trans h6.output,yQ h6.size av.size,λk hk rE=>(av.keep k (lQ hk h6.size) (.inl hk)).trans (h6.keep k hk rE)⟩⟩;exact .inr (Classical.byContradiction λhs=>hm (.inr (.inr hs)))
theorem UV{w6:World}{b:Nat}{wc:Value->Array Value}{pre:List (CV×Np.Copy)}{S:Nat->Prop}{W W':World}(h:AtI w6 b wc pre S W)(hb:Below W.heap.size W W'):AtI w6 b wc pre S W':=by
 obtain⟨zv,h1,h2,h3,h4,h5,h6⟩:=h;exact⟨zv,h1,h2,h3,(hb.block b (eQ.1 h4).1).trans h4,h5.keep mq oh mr hb,h6.then_below hb⟩
theorem UX(e:List Value)(h:Np.Hist)(hf:Np.xi h)(hq:h.hosts.length<=100000/\h.hints.length<=100000/\h.anchor.data.length<=100000)(Jg:∀ c∈h.copies,∀ x∈c.zone.sets,x.set.data.length<=100000/\x.sigs.length<=100000)(t:Int)(w:World)(hR:iP w w.heap.size)(hh:fo w w.heap.size e h) :
 Calls prog 25 #[.agg e.toArray,.int .i64 t] w λe w'=>∃ e',e = .returned (.tuple #[.agg e'.toArray,.int .i64 (Np.atE h t)])/\CH uV 0 w.heap.size w' e' (Np.atW h t)/\Below w.heap.size w w':=by
 have uI:=jq hh;obtain⟨hv,cv,s,dv,cE,rfl,bl,gG,h3,h4,h5,h6⟩:=hh;obtain⟨ty,dX⟩:∃ ty,h.anchor.type=ty:=⟨_,rfl⟩;obtain⟨life,rG⟩:∃ life,h.anchor.life=life:=⟨_,rfl⟩;obtain⟨drift,Br⟩:∃ drift,h.drift=drift:=⟨_,rfl⟩;obtain⟨stop,iV⟩:∃ stop,h.stop=stop:=⟨_,rfl⟩;have H3:=jq h3;have H4:=jq h4;have H5:=jq h5;have H6:=jq h6;have HS:=jq (And.intro bl gG);have il:=jq hf;have cN:=jq iV;have eK:=jq (And.intro dX rG);obtain⟨A1,c1,rfl,_,_⟩:=al h3;obtain⟨A2,c2,rfl,_,_⟩:=al h4;obtain⟨A3,c3,rfl,_,_⟩:=al h5;obtain⟨A4,c4,rfl,_,_⟩:=al h6;clear h3 h4 h5 h6 bl gG hf;obtain⟨n1,bp⟩:∃ n,h.hosts.length=n:=⟨_,rfl⟩;obtain⟨n2,bJ⟩:∃ n,h.copies.length=n:=⟨_,rfl⟩;obtain⟨n3,di⟩:∃ n,h.anchor.data.length=n:=⟨_,rfl⟩;obtain⟨n4,dO⟩:∃ n,h.hints.length=n:=⟨_,rfl⟩;rw[bp] at H3;rw[bJ] at H4;rw[di] at H5;rw[dO] at H6;rw[bp,bJ,di,dO,dX,rG,Br,iV] at uI |-;have nA:=jq bJ;have gW:=jq bp;have uE:=jq dO;have sN:=jq di;rw[bp,di,dO] at hq;clear bp bJ di dO dX rG Br iV;obtain⟨r,hr⟩:∃ r,Np.yes (Np.VHist h)=r:=⟨_,rfl⟩;have oM:=jq hr;clear hr;obtain⟨X,hX⟩:∃ X,w.heap.size=X:=⟨_,rfl⟩;obtain⟨W1,an⟩:∃ W1,((w.alloc (.cells #[.slice A1 n1 c1,.slice A2 n2 c2,.string s,.int .i64 ty,.int .i64 life,.slice A3 n3 c3,.slice A4 n4 c4,.int .i64 drift,.int .i64 stop] 29)).alloc (.cells #[.int .i64 t] 3)).alloc (.cells #[.slice none 0 0,.slice none 0 0,.string ⟨#[]⟩,.int .i64 0,.int .i64 0,.slice none 0 0,.slice none 0 0] 68)=W1:=⟨_,rfl⟩;have aL:Below w.heap.size w W1:=by rw[<-an];exact (((vQ _ _).alloc (bQ _) _).alloc (by simp <;> omega) _).alloc (by simp <;> omega) _
 have kP:W1.heap.size=X+3:=by rw[<-an,<-hX];simp
 have k0:W1.cell? ⟨X,0,none⟩=some (.slice A1 n1 c1):=by rw[<-an,<-hX];simp[go_sem]
 have k1:W1.cell? ⟨X,1,none⟩=some (.slice A2 n2 c2):=by rw[<-an,<-hX];simp[go_sem]
 have k2:W1.cell? ⟨X,2,none⟩=some (.string s):=by rw[<-an,<-hX];simp[go_sem]
 have k3:W1.cell? ⟨X,3,none⟩=some (.int .i64 ty):=by rw[<-an,<-hX];simp[go_sem]
 have k4:W1.cell? ⟨X,4,none⟩=some (.int .i64 life):=by rw[<-an,<-hX];simp[go_sem]
 have k5:W1.cell? ⟨X,5,none⟩=some (.slice A3 n3 c3):=by rw[<-an,<-hX];simp[go_sem]
 have k6:W1.cell? ⟨X,6,none⟩=some (.slice A4 n4 c4):=by rw[<-an,<-hX];simp[go_sem]
 have k7:W1.cell? ⟨X,7,none⟩=some (.int .i64 drift):=by rw[<-an,<-hX];simp[go_sem]
 have k8:W1.cell? ⟨X,8,none⟩=some (.int .i64 stop):=by rw[<-an,<-hX];simp[go_sem]
 have kt:W1.cell? ⟨X+1,0,none⟩=some (.int .i64 t):=by rw[<-an,<-hX];simp[go_sem]
 have vW:W1.heap[X+1+1]?=some (.cells #[.slice none 0 0,.slice none 0 0,.string ⟨#[]⟩,.int .i64 0,.int .i64 0,.slice none 0 0,.slice none 0 0] 68):=by
  rw[<-an,<-hX]
  have:=heap_alloc_new ((w.alloc (.cells #[.slice A1 n1 c1,.slice A2 n2 c2,.string s,.int .i64 ty,.int .i64 life,.slice A3 n3 c3,.slice A4 n4 c4,.int .i64 drift,.int .i64 stop] 29)).alloc (.cells #[.int .i64 t] 3)) (.cells #[.slice none 0 0,.slice none 0 0,.string ⟨#[]⟩,.int .i64 0,.int .i64 0,.slice none 0 0,.slice none 0 0] 68)
  simpa using this
 have gd:=jq hR;rw[hX] at aL H3 H4 H5 H6 uI gd |-;have aU:=jq aL;clear aL hR;refine (callsIn_wide (n:=0)).1 ?_;refine callsIn_of_wp_marks func25 rfl trivial ?_ rfl;simp only[ntmps25,List.size_toArray,List.length_cons,List.length_nil,Nat.reduceAdd,Nat.reduceSub,Array.replicate_succ,Array.replicate_zero,List.push_toArray,List.append_toArray,List.nil_append,List.cons_append];gi_wp2_with fail;refine⟨trivial,rfl,?_⟩;refine (callsIn_wide.2 (IP _ h il.out W1 ((gd.out.keep aU.out).more (by omega)) (lF _ _ _ _ _ (lE _ _ _ _ _ uI.out aU.out) (by omega)))).mono ?_;rw[oM.out];rintro e w2 ⟨rfl,ac⟩;have aM:=ac.size;have m0:=(cl ac (by omega)).trans k0;have m1:=(cl ac (by omega)).trans k1;have m2:=(cl ac (by omega)).trans k2;have m3:=(cl ac (by omega)).trans k3;have m4:=(cl ac (by omega)).trans k4;have m5:=(cl ac (by omega)).trans k5;have m6:=(cl ac (by omega)).trans k6;have m7:=(cl ac (by omega)).trans k7;have m8:=(cl ac (by omega)).trans k8;have mt:=(cl ac (by omega)).trans kt;have aT:=jq ((ac.block (X+1+1) (by omega)).trans vW);have ak:=jq (aU.out.trans (ac.mono (by omega)));clear ac an hX k0 k1 k2 k3 k4 k5 k6 k7 k8 kt vW
 cases r with
 | false=>
  have HN:Hid (¬ Np.qv h t):=jq (λh=>by have:=Np.bO h.1;rw[oM.out] at this;cases this);have y0:w2.cell? ⟨X+1+1,0,none⟩=some (.slice none 0 0):=by simp[World.cell?,aT.out]
  have z0:w2.frozen? ⟨X+1+1,0,none⟩=false:=by simp[World.frozen?,aT.out]
  have y1:w2.cell? ⟨X+1+1,1,none⟩=some (.slice none 0 0):=by simp[World.cell?,aT.out]
  have z1:w2.frozen? ⟨X+1+1,1,none⟩=false:=by simp[World.frozen?,aT.out]
  have y2:w2.cell? ⟨X+1+1,2,none⟩=some (.string ⟨#[]⟩):=by simp[World.cell?,aT.out]
  have z2:w2.frozen? ⟨X+1+1,2,none⟩=false:=by simp[World.frozen?,aT.out]
  have y3:w2.cell? ⟨X+1+1,3,none⟩=some (.int .i64 0):=by simp[World.cell?,aT.out]
  have z3:w2.frozen? ⟨X+1+1,3,none⟩=false:=by simp[World.frozen?,aT.out]
  have y4:w2.cell? ⟨X+1+1,4,none⟩=some (.int .i64 0):=by simp[World.cell?,aT.out]
  have z4:w2.frozen? ⟨X+1+1,4,none⟩=false:=by simp[World.frozen?,aT.out]
  have y5:w2.cell? ⟨X+1+1,5,none⟩=some (.slice none 0 0):=by simp[World.cell?,aT.out]
  have z5:w2.frozen? ⟨X+1+1,5,none⟩=false:=by simp[World.frozen?,aT.out]
  have y6:w2.cell? ⟨X+1+1,6,none⟩=some (.slice none 0 0):=by simp[World.cell?,aT.out]
  have z6:w2.frozen? ⟨X+1+1,6,none⟩=false:=by simp[World.frozen?,aT.out]
  gi_wp2_with fail;obtain⟨W,hW⟩:∃ W,(((((((w2.setCell ⟨X+1+1,0,none⟩ (.slice none 0 0)).setCell ⟨X+1+1,1,none⟩ (.slice none 0 0)).setCell ⟨X+1+1,2,none⟩ (.string ⟨#[]⟩)).setCell ⟨X+1+1,3,none⟩ (.int .i64 0)).setCell ⟨X+1+1,4,none⟩ (.int .i64 0)).setCell ⟨X+1+1,5,none⟩ (.slice none 0 0)).setCell ⟨X+1+1,6,none⟩ (.slice none 0 0))=W:=⟨_,rfl⟩;have qA:Hid (Below X w W):=jq (by rw[<-hW];exact (((((((ak.out.setCell (p:=⟨X+1+1,0,none⟩) (by dsimp only;omega) _).setCell (p:=⟨X+1+1,1,none⟩) (by dsimp only;omega) _).setCell (p:=⟨X+1+1,2,none⟩) (by dsimp only;omega) _).setCell (p:=⟨X+1+1,3,none⟩) (by dsimp only;omega) _).setCell (p:=⟨X+1+1,4,none⟩) (by dsimp only;omega) _).setCell (p:=⟨X+1+1,5,none⟩) (by dsimp only;omega) _).setCell (p:=⟨X+1+1,6,none⟩) (by dsimp only;omega) _));have e0:W.cell? ⟨X+1+1,0,none⟩=some (.slice none 0 0):=by rw[<-hW];simp[go_sem,y0]
  have e1:W.cell? ⟨X+1+1,1,none⟩=some (.slice none 0 0):=by rw[<-hW];simp[go_sem,y1]
  have e2:W.cell? ⟨X+1+1,2,none⟩=some (.string ⟨#[]⟩):=by rw[<-hW];simp[go_sem,y2]
  have e3:W.cell? ⟨X+1+1,3,none⟩=some (.int .i64 0):=by rw[<-hW];simp[go_sem,y3]
  have e4:W.cell? ⟨X+1+1,4,none⟩=some (.int .i64 0):=by rw[<-hW];simp[go_sem,y4]
  have e5:W.cell? ⟨X+1+1,5,none⟩=some (.slice none 0 0):=by rw[<-hW];simp[go_sem,y5]
  have e6:W.cell? ⟨X+1+1,6,none⟩=some (.slice none 0 0):=by rw[<-hW];simp[go_sem,y6]
  rw[hW];refine ll (v:=.tuple #[.agg #[.slice none 0 0,.slice none 0 0,.string ⟨#[]⟩,.int .i64 0,.int .i64 0,.slice none 0 0,.slice none 0 0],.int .i64 1]) (by simp[results,results25,go_sem,e0,e1,e2,e3,e4,e5,e6]) ⟨[.slice none 0 0,.slice none 0 0,.string ⟨#[]⟩,.int .i64 0,.int .i64 0,.slice none 0 0,.slice none 0 0],E3 rfl (by rw[(Np.xX HN.out).2]),by rw[(Np.xX HN.out).1];exact λ_ _=>JS _ _,qA.out⟩
 | true=>
  have HV:Hid (Np.VHist h):=jq (Np.fm.1 oM.out);by_cases B7:t<0
  ·have wn:decide (t<0)=true:=uQ B7;have HN:Hid (¬ Np.qv h t):=jq (λh=>by have:=h.2.1;omega);have y0:w2.cell? ⟨X+1+1,0,none⟩=some (.slice none 0 0):=by simp[World.cell?,aT.out]
   have z0:w2.frozen? ⟨X+1+1,0,none⟩=false:=by simp[World.frozen?,aT.out]
   have y1:w2.cell? ⟨X+1+1,1,none⟩=some (.slice none 0 0):=by simp[World.cell?,aT.out]
   have z1:w2.frozen? ⟨X+1+1,1,none⟩=false:=by simp[World.frozen?,aT.out]
   have y2:w2.cell? ⟨X+1+1,2,none⟩=some (.string ⟨#[]⟩):=by simp[World.cell?,aT.out]
   have z2:w2.frozen? ⟨X+1+1,2,none⟩=false:=by simp[World.frozen?,aT.out]
   have y3:w2.cell? ⟨X+1+1,3,none⟩=some (.int .i64 0):=by simp[World.cell?,aT.out]
   have z3:w2.frozen? ⟨X+1+1,3,none⟩=false:=by simp[World.frozen?,aT.out]
   have y4:w2.cell? ⟨X+1+1,4,none⟩=some (.int .i64 0):=by simp[World.cell?,aT.out]
   have z4:w2.frozen? ⟨X+1+1,4,none⟩=false:=by simp[World.frozen?,aT.out]
   have y5:w2.cell? ⟨X+1+1,5,none⟩=some (.slice none 0 0):=by simp[World.cell?,aT.out]
   have z5:w2.frozen? ⟨X+1+1,5,none⟩=false:=by simp[World.frozen?,aT.out]
   have y6:w2.cell? ⟨X+1+1,6,none⟩=some (.slice none 0 0):=by simp[World.cell?,aT.out]
   have z6:w2.frozen? ⟨X+1+1,6,none⟩=false:=by simp[World.frozen?,aT.out]
   clear B7;gi_wp2_with fail;obtain⟨W,hW⟩:∃ W,(((((((w2.setCell ⟨X+1+1,0,none⟩ (.slice none 0 0)).setCell ⟨X+1+1,1,none⟩ (.slice none 0 0)).setCell ⟨X+1+1,2,none⟩ (.string ⟨#[]⟩)).setCell ⟨X+1+1,3,none⟩ (.int .i64 0)).setCell ⟨X+1+1,4,none⟩ (.int .i64 0)).setCell ⟨X+1+1,5,none⟩ (.slice none 0 0)).setCell ⟨X+1+1,6,none⟩ (.slice none 0 0))=W:=⟨_,rfl⟩;have qA:Hid (Below X w W):=jq (by rw[<-hW];exact (((((((ak.out.setCell (p:=⟨X+1+1,0,none⟩) (by dsimp only;omega) _).setCell (p:=⟨X+1+1,1,none⟩) (by dsimp only;omega) _).setCell (p:=⟨X+1+1,2,none⟩) (by dsimp only;omega) _).setCell (p:=⟨X+1+1,3,none⟩) (by dsimp only;omega) _).setCell (p:=⟨X+1+1,4,none⟩) (by dsimp only;omega) _).setCell (p:=⟨X+1+1,5,none⟩) (by dsimp only;omega) _).setCell (p:=⟨X+1+1,6,none⟩) (by dsimp only;omega) _));have e0:W.cell? ⟨X+1+1,0,none⟩=some (.slice none 0 0):=by rw[<-hW];simp[go_sem,y0]
   have e1:W.cell? ⟨X+1+1,1,none⟩=some (.slice none 0 0):=by rw[<-hW];simp[go_sem,y1]
   have e2:W.cell? ⟨X+1+1,2,none⟩=some (.string ⟨#[]⟩):=by rw[<-hW];simp[go_sem,y2]
   have e3:W.cell? ⟨X+1+1,3,none⟩=some (.int .i64 0):=by rw[<-hW];simp[go_sem,y3]
   have e4:W.cell? ⟨X+1+1,4,none⟩=some (.int .i64 0):=by rw[<-hW];simp[go_sem,y4]
   have e5:W.cell? ⟨X+1+1,5,none⟩=some (.slice none 0 0):=by rw[<-hW];simp[go_sem,y5]
   have e6:W.cell? ⟨X+1+1,6,none⟩=some (.slice none 0 0):=by rw[<-hW];simp[go_sem,y6]
   rw[hW];refine ll (v:=.tuple #[.agg #[.slice none 0 0,.slice none 0 0,.string ⟨#[]⟩,.int .i64 0,.int .i64 0,.slice none 0 0,.slice none 0 0],.int .i64 1]) (by simp[results,results25,go_sem,e0,e1,e2,e3,e4,e5,e6]) ⟨[.slice none 0 0,.slice none 0 0,.string ⟨#[]⟩,.int .i64 0,.int .i64 0,.slice none 0 0,.slice none 0 0],E3 rfl (by rw[(Np.xX HN.out).2]),by rw[(Np.xX HN.out).1];exact λ_ _=>JS _ _,qA.out⟩
  have wn:decide (t<0)=false:=tQ B7;by_cases Ez:stop<=t
  ·have wt:decide (stop<=t)=true:=uQ Ez;have HN:Hid (¬ Np.qv h t):=jq (λh=>by have:=h.2.2;rw[cN.out] at this;omega);have y0:w2.cell? ⟨X+1+1,0,none⟩=some (.slice none 0 0):=by simp[World.cell?,aT.out]
   have z0:w2.frozen? ⟨X+1+1,0,none⟩=false:=by simp[World.frozen?,aT.out]
   have y1:w2.cell? ⟨X+1+1,1,none⟩=some (.slice none 0 0):=by simp[World.cell?,aT.out]
   have z1:w2.frozen? ⟨X+1+1,1,none⟩=false:=by simp[World.frozen?,aT.out]
   have y2:w2.cell? ⟨X+1+1,2,none⟩=some (.string ⟨#[]⟩):=by simp[World.cell?,aT.out]
   have z2:w2.frozen? ⟨X+1+1,2,none⟩=false:=by simp[World.frozen?,aT.out]
   have y3:w2.cell? ⟨X+1+1,3,none⟩=some (.int .i64 0):=by simp[World.cell?,aT.out]
   have z3:w2.frozen? ⟨X+1+1,3,none⟩=false:=by simp[World.frozen?,aT.out]
   have y4:w2.cell? ⟨X+1+1,4,none⟩=some (.int .i64 0):=by simp[World.cell?,aT.out]
   have z4:w2.frozen? ⟨X+1+1,4,none⟩=false:=by simp[World.frozen?,aT.out]
   have y5:w2.cell? ⟨X+1+1,5,none⟩=some (.slice none 0 0):=by simp[World.cell?,aT.out]
   have z5:w2.frozen? ⟨X+1+1,5,none⟩=false:=by simp[World.frozen?,aT.out]
   have y6:w2.cell? ⟨X+1+1,6,none⟩=some (.slice none 0 0):=by simp[World.cell?,aT.out]
   have z6:w2.frozen? ⟨X+1+1,6,none⟩=false:=by simp[World.frozen?,aT.out]
   clear B7 Ez;gi_wp2_with fail;obtain⟨W,hW⟩:∃ W,(((((((w2.setCell ⟨X+1+1,0,none⟩ (.slice none 0 0)).setCell ⟨X+1+1,1,none⟩ (.slice none 0 0)).setCell ⟨X+1+1,2,none⟩ (.string ⟨#[]⟩)).setCell ⟨X+1+1,3,none⟩ (.int .i64 0)).setCell ⟨X+1+1,4,none⟩ (.int .i64 0)).setCell ⟨X+1+1,5,none⟩ (.slice none 0 0)).setCell ⟨X+1+1,6,none⟩ (.slice none 0 0))=W:=⟨_,rfl⟩;have qA:Hid (Below X w W):=jq (by rw[<-hW];exact (((((((ak.out.setCell (p:=⟨X+1+1,0,none⟩) (by dsimp only;omega) _).setCell (p:=⟨X+1+1,1,none⟩) (by dsimp only;omega) _).setCell (p:=⟨X+1+1,2,none⟩) (by dsimp only;omega) _).setCell (p:=⟨X+1+1,3,none⟩) (by dsimp only;omega) _).setCell (p:=⟨X+1+1,4,none⟩) (by dsimp only;omega) _).setCell (p:=⟨X+1+1,5,none⟩) (by dsimp only;omega) _).setCell (p:=⟨X+1+1,6,none⟩) (by dsimp only;omega) _));have e0:W.cell? ⟨X+1+1,0,none⟩=some (.slice none 0 0):=by rw[<-hW];simp[go_sem,y0]
   have e1:W.cell? ⟨X+1+1,1,none⟩=some (.slice none 0 0):=by rw[<-hW];simp[go_sem,y1]
   have e2:W.cell? ⟨X+1+1,2,none⟩=some (.string ⟨#[]⟩):=by rw[<-hW];simp[go_sem,y2]
   have e3:W.cell? ⟨X+1+1,3,none⟩=some (.int .i64 0):=by rw[<-hW];simp[go_sem,y3]
   have e4:W.cell? ⟨X+1+1,4,none⟩=some (.int .i64 0):=by rw[<-hW];simp[go_sem,y4]
   have e5:W.cell? ⟨X+1+1,5,none⟩=some (.slice none 0 0):=by rw[<-hW];simp[go_sem,y5]
   have e6:W.cell? ⟨X+1+1,6,none⟩=some (.slice none 0 0):=by rw[<-hW];simp[go_sem,y6]
   rw[hW];refine ll (v:=.tuple #[.agg #[.slice none 0 0,.slice none 0 0,.string ⟨#[]⟩,.int .i64 0,.int .i64 0,.slice none 0 0,.slice none 0 0],.int .i64 1]) (by simp[results,results25,go_sem,e0,e1,e2,e3,e4,e5,e6]) ⟨[.slice none 0 0,.slice none 0 0,.string ⟨#[]⟩,.int .i64 0,.int .i64 0,.slice none 0 0,.slice none 0 0],E3 rfl (by rw[(Np.xX HN.out).2]),by rw[(Np.xX HN.out).1];exact λ_ _=>JS _ _,qA.out⟩
  have wt:decide (stop<=t)=false:=tQ Ez;have HK:Hid (Np.qv h t):=jq ⟨HV.out,by omega,by rw[cN.out];omega⟩;clear B7 Ez;gi_wp2_with fail;obtain⟨Zt,Nx⟩:∃ Zt,w2.heap.size=Zt:=⟨_,rfl⟩;have KK:Hid (Below X w w2):=jq ak.out;have Uq:Hid (Zt<=w2.heap.size):=jq (Nat.le_of_eq Nx.symm);have S5:Hid (Below Zt w2 w2):=jq (vQ _ _);have hX3:X+3<=Zt:=by omega
  refine zi λa0 cB=>?_;have mv:=jq cB;have FD:=jq (show a0.eval (.tmp 2) = .pointer (some ⟨X,0,none⟩) by rw[cB];rfl);have HM:=jq (show a0.tmps.size=74 by rw[cB];rfl);clear cB;refine wpIn_mono (Q:=Kr a0 X A1 n1 c1 s ty life A3 n3 c3 A4 n4 c4 h Zt w2) ?_ ?_
  ·refine wpIn_wide.2 (wp_region_any (by kernel_rfl) ?_);refine aJQ (Inv:=At3Inv h Zt n1 n4 w2) (val:=jk X A1 n1 c1 s ty life A3 n3 c3 A4 n4 c4) (ZE (ord:=[0,1,3,4,5,6,8,2,7,9]) (T:=[2,7,9]) (p0:=10) (m:=74) (dep:=lU) (dst:=sZ) (by kernel_rfl)) HM.out
    (λe p hp=>by simp only[List.mem_cons,Qh,or_false] at hp;rcases hp with rfl | rfl | rfl <;> rfl) (Mo X A1 n1 c1 s ty life A3 n3 c3 A4 n4 c4) ?_ ?_ ?_ (e0:=λ_=>undef) (show At3Inv h Zt n1 n4 w2 [] (λ_=>undef) w2.drew from ⟨S5.out.drew,Uq.out,(λh=>by cases h),(λh=>by cases h),(λh=>by cases h)⟩)
   ·intro A e u hI i hi IM hd o ho a' hb hx;have hZ:=hI.lt;replace m0:=(cl hI.below (by omega)).trans m0;replace m1:=(cl hI.below (by omega)).trans m1;replace m2:=(cl hI.below (by omega)).trans m2;replace m3:=(cl hI.below (by omega)).trans m3;replace m4:=(cl hI.below (by omega)).trans m4;replace m5:=(cl hI.below (by omega)).trans m5;replace m6:=(cl hI.below (by omega)).trans m6;replace m7:=(cl hI.below (by omega)).trans m7;replace m8:=(cl hI.below (by omega)).trans m8;have k2':=(bG hb (j:=2) (by decide) (by decide)).trans FD.out;simp[Act.eval] at k2';by_cases h8:i=8
    ·subst h8;obtain⟨A5,c5,h5,_⟩:=hI.hosts (hd 2 (by simp[lU]));obtain⟨A6,c6,h6,_⟩:=hI.hints (hd 7 (by simp[lU]))
     cases ho
     simp[Act.eval,Region.binds,jk,sZ] at hx;refine .inl ⟨by simp[Region.wanted],λw' hw'=>?_⟩;subst hw';simp[Oper.quietAt,Oper.quietUpon,execOp,go_sem,jk,hx,h5,h6]
    simp only[List.mem_cons,Qh,or_false] at hi;rcases hi with rfl | rfl | rfl | rfl | rfl | rfl | rfl | rfl | rfl | rfl
    all_goals first
     | (exfalso;simp at IM;done)
     | exact absurd rfl h8
     | (cases ho
        try simp[Act.eval,Region.binds,jk,sZ] at hx
        refine .inl ⟨by simp[Region.wanted],λw' hw'=>?_⟩;subst hw';simp[Oper.quietAt,Oper.quietUpon,execOp,go_sem,jk,k2',m0,m2,m3,m4,m5,m6,hx])
   ·intro A e u hI p hp rI o ho a' hb hx K hK;simp only[List.mem_cons,Qh,or_false] at hp;rcases hp with rfl | rfl | rfl
    ·cases ho
     simp[Act.eval,Region.binds,jk,sZ,lU] at hx;simp only[wpOp];simp[Region.wanted];refine .inl ?_;simp[Oper.wp,go_sem,hx];refine (Vn _ h.hosts (by have:=gW.out;omega) u ((H3.out.keep km (KK.out.trans (hI.below.mono (by omega)))).more sh (by have:=hI.lt;omega))).mono ?_;rintro e' u' ⟨vv,rfl,ho,hb'⟩;obtain⟨A5,c5,rfl⟩:=ho.formL;rw[gW.out] at ho |-;dsimp only;exact hK _ _ (hI.host rI hb' ho)
    ·cases ho
     simp[Act.eval,Region.binds,jk,sZ,lU] at hx;simp only[wpOp];simp[Region.wanted];refine .inl ?_;simp[Oper.wp,go_sem,hx];refine (Vo _ h.hints (by have:=uE.out;omega) u ((H6.out.keep lG (KK.out.trans (hI.below.mono (by omega)))).more sj (by have:=hI.lt;omega))).mono ?_;rintro e' u' ⟨vv,rfl,ho,hb'⟩;obtain⟨A6,c6,rfl⟩:=ho.formL;rw[uE.out] at ho |-;dsimp only;exact hK _ _ (hI.hint rI hb' ho)
    ·cases ho
     simp only[wpOp];simp[Region.wanted];refine .inl ?_;simp[Oper.wp,execOp,go_sem];exact hK _ _ hI.made
   ·intro A e u hI hA o ho a' hv hb ha K hK;obtain⟨A5,c5,h5,F2⟩:=hI.hosts (hA 2 (by simp));obtain⟨A6,c6,h6,F7⟩:=hI.hints (hA 7 (by simp));obtain⟨b,h9,aw,ac,F9,N2,N7⟩:=hI.box (hA 9 (by simp));have N2:=N2 (hA 2 (by simp));have N7:=N7 (hA 7 (by simp));rw[h5] at F2 N2;rw[h6] at F7 N7;have av8:=hv 8 (by simp);have av9:=hv 9 (by simp);simp[Act.eval,jk,sZ] at av8 av9
    cases ho
    simp only[wpOp];simp[Region.wanted];refine .inl ?_;have y0:u.cell? ⟨b,0,none⟩=some (.slice none 0 0):=by simp[World.cell?,F9]
    have z0:u.frozen? ⟨b,0,none⟩=false:=by simp[World.frozen?,F9]
    have y1:u.cell? ⟨b,1,none⟩=some (.slice none 0 0):=by simp[World.cell?,F9]
    have z1:u.frozen? ⟨b,1,none⟩=false:=by simp[World.frozen?,F9]
    have y2:u.cell? ⟨b,2,none⟩=some (.string ⟨#[]⟩):=by simp[World.cell?,F9]
    have z2:u.frozen? ⟨b,2,none⟩=false:=by simp[World.frozen?,F9]
    have y3:u.cell? ⟨b,3,none⟩=some (.int .i64 0):=by simp[World.cell?,F9]
    have z3:u.frozen? ⟨b,3,none⟩=false:=by simp[World.frozen?,F9]
    have y4:u.cell? ⟨b,4,none⟩=some (.int .i64 0):=by simp[World.cell?,F9]
    have z4:u.frozen? ⟨b,4,none⟩=false:=by simp[World.frozen?,F9]
    have y5:u.cell? ⟨b,5,none⟩=some (.slice none 0 0):=by simp[World.cell?,F9]
    have z5:u.frozen? ⟨b,5,none⟩=false:=by simp[World.frozen?,F9]
    have y6:u.cell? ⟨b,6,none⟩=some (.slice none 0 0):=by simp[World.cell?,F9]
    have z6:u.frozen? ⟨b,6,none⟩=false:=by simp[World.frozen?,F9]
    rw[h5,h6] at av8;rw[h9] at av9;simp[Oper.wp,execOp,go_sem,av8,av9,y0,z0,y1,z1,y2,z2,y3,z3,y4,z4,y5,z5,y6,z6];refine hK _ _ ?_;obtain⟨W',hW'⟩:∃ W',W'=(((((((u.setCell ⟨b,0,none⟩ (.slice A5 n1 c5)).setCell ⟨b,1,none⟩ (.slice none 0 0)).setCell ⟨b,2,none⟩ (.string s)).setCell ⟨b,3,none⟩ (.int .i64 ty)).setCell ⟨b,4,none⟩ (.int .i64 life)).setCell ⟨b,5,none⟩ (.slice A3 n3 c3)).setCell ⟨b,6,none⟩ (.slice A6 n4 c6)):=⟨_,rfl⟩;rw[<-hW'];have Om:∀ k,k≠b->W'.heap[k]?=u.heap[k]?:=λk hk=>by rw[hW'];exact ((wQ _ _ _ k hk).trans ((wQ _ _ _ k hk).trans ((wQ _ _ _ k hk).trans ((wQ _ _ _ k hk).trans ((wQ _ _ _ k hk).trans ((wQ _ _ _ k hk).trans (wQ _ _ _ k hk)))))))
    have Zx:W'.heap.size=u.heap.size:=by rw[hW'];simp
    have nX:W'.heap[b]?=some (.cells #[.slice A5 n1 c5,.slice none 0 0,.string s,.int .i64 ty,.int .i64 life,.slice A3 n3 c3,.slice A6 n4 c6] 68):=by rw[hW'];simp[World.setCell,Array.getElem?_modify,F9]
    have he:jk X A1 n1 c1 s ty life A3 n3 c3 A4 n4 c4 e=jk X A1 n1 c1 s ty life A3 n3 c3 A4 n4 c4 (Dw (.slice A5 n1 c5) (.slice A6 n4 c6) b):=funext λi=>Mo X A1 n1 c1 s ty life A3 n3 c3 A4 n4 c4 i _ _ (λj hj=>UU h5 h6 h9 hj);rw[he] at ha;unfold Kr;refine⟨rfl,A5,c5,A6,c6,b,ha,?_,?_,nX,aw,by rw[Zx];exact ac,N2,N7,?_⟩
    ·exact F2.heapR (λg hg=>Om g (λe=>N2 (e ▸ hg))) (λ_ _ h=>h)
    ·exact F7.heapR (λg hg=>Om g (λe=>N7 (e ▸ hg))) (λ_ _ h=>h)
    ·rw[hW'];exact (((((((hI.below.setCell (p:=⟨b,0,none⟩) aw _).setCell (p:=⟨b,1,none⟩) aw _).setCell (p:=⟨b,2,none⟩) aw _).setCell (p:=⟨b,3,none⟩) aw _).setCell (p:=⟨b,4,none⟩) aw _).setCell (p:=⟨b,5,none⟩) aw _).setCell (p:=⟨b,6,none⟩) aw _)
  ·rintro e a' w3 ⟨rfl,A5,c5,A6,c6,b,rfl,hA,hB,nX,aw,ac,bp,bJ,j9⟩;have FA:=jq hA;have FB:=jq hB;have HBZ:=jq j9;have NA:=jq bp;have NB:=jq bJ;have dP:=j9.size;rw[Nx] at dP;have m30:=(cl j9 (by omega)).trans m0;have m31:=(cl j9 (by omega)).trans m1;have m32:=(cl j9 (by omega)).trans m2;have m33:=(cl j9 (by omega)).trans m3;have m34:=(cl j9 (by omega)).trans m4;have m35:=(cl j9 (by omega)).trans m5;have m36:=(cl j9 (by omega)).trans m6;have m37:=(cl j9 (by omega)).trans m7;have m38:=(cl j9 (by omega)).trans m8;have m3t:=(cl j9 (by omega)).trans mt;have gb:=jq ((j9.block (X+1+1) (by omega)).trans aT.out);have kx:=jq nX;have az:=jq (ak.out.trans (j9.mono (by omega)));have Xc:w3.cell? ⟨b,5,none⟩=some (.slice A3 n3 c3):=by simp[World.cell?,nX]
   have Xf:w3.frozen? ⟨b,5,none⟩=false:=by simp[World.frozen?,nX]
   clear hA hB j9 bp bJ m0 m1 m2 m3 m4 m5 m6 m7 m8 mt nX;rw[mv.out];simp only[lD,Act.put,jk,sZ,Dw,List.map_cons,List.map_nil];simp;gi_wp2_with fail;refine⟨trivial,rfl,?_⟩;refine (callsIn_wide.2 (Mz _ h.anchor.data (by have:=sN.out;omega) w3 ((H5.out.keep cH az.out).more du (by omega)))).mono ?_;rintro e w4 ⟨v4,rfl,lv,ar⟩;have eC:=ar.size;have m40:=(cl ar (by omega)).trans m30;have m41:=(cl ar (by omega)).trans m31;have m42:=(cl ar (by omega)).trans m32;have m43:=(cl ar (by omega)).trans m33;have m44:=(cl ar (by omega)).trans m34;have m45:=(cl ar (by omega)).trans m35;have m46:=(cl ar (by omega)).trans m36;have m47:=(cl ar (by omega)).trans m37;have m48:=(cl ar (by omega)).trans m38;have m4t:=(cl ar (by omega)).trans m3t;have xI:=jq ((ar.block (X+1+1) (by omega)).trans gb.out);have Er:=(ar.block b ac).trans kx.out;have FA4:=jq (FA.out.keep km ar dP);have FB4:=jq (FB.out.keep lG ar dP);have br:=jq (az.out.trans (ar.mono (by omega)));obtain⟨A7,c7,rfl⟩:=lv.formL;rw[sN.out] at lv |-;have FD4:Hid (bn bF 3 128 w3.heap.size w3.heap.size w4 (.slice A7 n3 c7) h.anchor.data):=jq lv;have ND:Hid ((Value.slice A7 n3 c7).ownBlock≠some b):=jq (λe=>by have:=(lv.ltR _ e).1;omega);have Xd:w4.cell? ⟨b,5,none⟩=some (.slice A3 n3 c3):=by simp[World.cell?,Er]
   have Xg:w4.frozen? ⟨b,5,none⟩=false:=by simp[World.frozen?,Er]
   obtain⟨w5,aP⟩:∃ w5,w4.setCell ⟨b,5,none⟩ (.slice A7 n3 c7)=w5:=⟨_,rfl⟩;have jB:w5.heap.size=w4.heap.size:=by rw[<-aP];simp
   have Ei:∀ k,k≠b->w5.heap[k]?=w4.heap[k]?:=λk hk=>by rw[<-aP];exact wQ _ _ _ _ hk
   have OG:w5.heap[b]?=some (.cells #[.slice A5 n1 c5,.slice none 0 0,.string s,.int .i64 ty,.int .i64 life,.slice A7 n3 c7,.slice A6 n4 c6] 68):=by rw[<-aP];simp[World.setCell,Array.getElem?_modify,Er]
   have aC:Below Zt w4 w5:=by rw[<-aP];exact (vQ _ _).setCell (by dsimp only;omega) _
   have m50:=(cl aC (by omega)).trans m40;have m51:=(cl aC (by omega)).trans m41;have m52:=(cl aC (by omega)).trans m42;have m53:=(cl aC (by omega)).trans m43;have m54:=(cl aC (by omega)).trans m44;have m55:=(cl aC (by omega)).trans m45;have m56:=(cl aC (by omega)).trans m46;have m57:=(cl aC (by omega)).trans m47;have m58:=(cl aC (by omega)).trans m48;have m5t:=(cl aC (by omega)).trans m4t;have mA:=jq ((aC.block (X+1+1) (by omega)).trans xI.out);have FA5:=jq (FA4.out.heapR (w':=w5) (λg hg=>Ei g (λe=>NA.out (e ▸ hg))) (λ_ _ h=>h));have FB5:=jq (FB4.out.heapR (w':=w5) (λg hg=>Ei g (λe=>NB.out (e ▸ hg))) (λ_ _ h=>h));have FD5:=jq (FD4.out.heapR (w':=w5) (λg hg=>Ei g (λe=>ND.out (e ▸ hg))) (λ_ _ h=>h));have cj:=jq (br.out.trans (aC.mono (by omega)));have Tu:=jq OG;have Xn:b<w5.heap.size:=by omega
   clear lv ar Er aC Ei OG m30 m31 m32 m33 m34 m35 m36 m37 m38 m3t m40 m41 m42 m43 m44 m45 m46 m47 m48 m4t Xc Xf;gi_wp2_with fail;clear aP Xd Xg;refine⟨trivial,rfl,?_⟩;refine (callsIn_wide.2 (MG _ _ _ _ _ _ _ _ _ 70 #[.pointer (some ⟨X+1,0,none⟩)] w5)).mono ?_;rintro e w6 ⟨rfl,bN⟩;obtain⟨Xh,Iq⟩:∃ Xh,w5.heap.size=Xh:=⟨_,rfl⟩;have gI:w6.heap.size=Xh+2:=by rw[bN];simp;omega
   have aO:Below w5.heap.size w5 w6:=by rw[bN];exact ((vQ _ _).alloc (bQ _) _).alloc (by simp) _
   have kX:w6.cell? ⟨Xh,1,none⟩=some (.slice A2 n2 c2):=by rw[bN,<-Iq];simp[go_sem]
   have kO:w6.cell? ⟨Xh+1,0,none⟩=some (.func (.func 70) #[] #[.pointer (some ⟨X+1,0,none⟩)]):=by rw[bN,<-Iq];simp[go_sem]
   rw[Iq];obtain⟨L,g9,mJ,oT⟩:=MR (H4.out.keep kk (cj.out.trans (aO.mono (by omega))));have Tf:=jq ((cl aO (by omega)).trans m5t);have uv:=jq (MH L (λx=>decide (x.1.frm<=t)&&decide (t<x.1.til)) 70 #[.pointer (some ⟨X+1,0,none⟩)] Xh (Xh+1) n2 c2 (λk=>k<w6.heap.size/\k≠b) A2 w6 ⟨by omega,by omega⟩ ⟨by omega,by omega⟩ kX kO mJ (by have:=il.out.1;have:=nA.out;omega)
    (λi x hx=>by
      obtain⟨_,b',o,h1,h2,h3⟩:=oT i x hx;exact⟨b',o,h1,⟨by omega,by omega⟩,h3⟩) VS
    (λx hx W hW=>by
      have h1:=(hW.cell (p:=⟨X+1,0,none⟩) ⟨by dsimp only;omega,by dsimp only;omega⟩).trans Tf.out
      have:=hW.1
      exact UT x.1.host x.1.frm x.1.til x.1.str _ x.1.A x.1.n x.1.c rfl (X+1) t W (by omega) h1))
   have Tv:=jq ((aO.block b Xn).trans Tu.out);have oG:=jq ((aO.block (X+1+1) (by omega)).trans mA.out);have FA6:=jq (FA5.out.keep km aO (by omega));have FB6:=jq (FB5.out.keep lG aO (by omega));have FD6:=jq (FD5.out.keep cH aO (by omega));have dh:=jq (cj.out.trans (aO.mono (by omega)));have kY:=jq g9;have lO:Hid (∀ x∈L,CVOf w6 X x.1 x.2):=jq (λx hx=>by obtain⟨i,hi⟩:=List.mem_iff_getElem?.1 hx;exact (oT i x hi).1);clear aO bN kX kO g9 oT m5t m50 m51 m52 m53 m54 m55 m56 m57 m58;gi_wp2_with fail;have Ha:=jq gI;refine Fp (Dr:=λk=>k<w6.heap.size/\k≠b) (w0:=w6) (first:=#[]) (captured:=#[.pointer (some ⟨Xh,0,none⟩),.pointer (some ⟨Xh+1,0,none⟩)]) (gf:=141) rfl MX (mk:=λy=>#[y,.pointer (some ⟨Xh,0,none⟩),.pointer (some ⟨Xh+1,0,none⟩)]) (λ_=>rfl)
    uv.out (dU.refl λk e=>e.1) (λ_=>rfl) (AtI w6 b (λzv=>#[.slice A5 n1 c5,zv,.string s,.int .i64 ty,.int .i64 life,.slice A7 n3 c7,.slice A6 n4 c6])) (λ_ _ _ _=>False)
    (Ms _ _ _ (by omega)) (λc s S W W' h _=>h)
    (λk=>k=b) (λk h1 h2=>h2.2 h1) (by intro k h;omega)
    ⟨.slice none 0 0,rfl,λg hg=>by simp[Value.ownBlock] at hg,λk e=>.inl e,Tv.out,bE.nil _,RdStep.refl _ _⟩ ?round ?done ?stop
   case stop=>
    rintro D c pre S W hD fu bd fI h hK;exact h.elim
   case done=>
    rintro D S W hD fu bd ⟨zv,DZ,ye,oV,mL,hown,aJ⟩ hK;obtain⟨pl,iD⟩:∃ pl,((L.filter λx=>decide (x.1.frm<=t)&&decide (t<x.1.til)).map λx:CV×Np.Copy=>Np.mp x.2)=pl:=⟨_,rfl⟩;have Lu:Hid ((Np.wW h.copies t).map Np.mp=pl):=jq (by
     rw[<-iD,<-kY.out];exact axY lO.out t)
    rw[iD] at hown;have aZY:pl.length<=500:=by
     rw[<-Lu.out,List.length_map]
     have:=axX h.copies t
     have:=il.out.1
     omega
    clear iD;obtain⟨vA,vc,rfl⟩:=hown.form;obtain⟨m,hm⟩:∃ m,pl.length=m:=⟨_,rfl⟩;rw[hm] at mL hown ye;have HM:=jq hm;have fP:=jq hown;have HHW:=jq aJ;have CZ:=jq hK;have Nm:D<W.heap.size:=(eQ.1 hK).1;have tf:=aJ.size;have eR:X<=b:=by omega
    have rl:Below X w6 W:=aJ.below (by omega) (λk e=>by omega);have Su:=jq (dh.out.trans (rl.mono (by omega)));have Nv:=(aJ.keep (X+1+1) (by omega) (by omega)).trans oG.out;have lS:=jq Nv;have SV:Hid (bn gz 3 101 Zt Zt W (.slice A5 n1 c5) h.hosts):=jq (FA6.out.heapR (λg hg=>aJ.keep g (FA6.out.ltR g hg).2 (λe=>NA.out (e ▸ hg))) (λ_ _ h=>h));have SW:Hid (bn gB 1 3 Zt Zt W (.slice A6 n4 c6) h.hints):=jq (FB6.out.heapR (λg hg=>aJ.keep g (FB6.out.ltR g hg).2 (λe=>NB.out (e ▸ hg))) (λ_ _ h=>h));have qP:Hid (bn bF 3 128 w3.heap.size w3.heap.size W (.slice A7 n3 c7) h.anchor.data):=jq (FD6.out.heapR (λg hg=>aJ.keep g (FD6.out.ltR g hg).2 (λe=>ND.out (e ▸ hg))) (λ_ _ h=>h));have g0:W.cell? ⟨b,0,none⟩=some (.slice A5 n1 c5):=by simp[World.cell?,mL]
    have g1:W.cell? ⟨b,1,none⟩=some (.slice vA m vc):=by simp[World.cell?,mL]
    have g2:W.cell? ⟨b,2,none⟩=some (.string s):=by simp[World.cell?,mL]
    have g3:W.cell? ⟨b,3,none⟩=some (.int .i64 ty):=by simp[World.cell?,mL]
    have g4:W.cell? ⟨b,4,none⟩=some (.int .i64 life):=by simp[World.cell?,mL]
    have g5:W.cell? ⟨b,5,none⟩=some (.slice A7 n3 c7):=by simp[World.cell?,mL]
    have g6:W.cell? ⟨b,6,none⟩=some (.slice A6 n4 c6):=by simp[World.cell?,mL]
    have y0:W.cell? ⟨X+1+1,0,none⟩=some (.slice none 0 0):=by simp[World.cell?,lS.out]
    have z0:W.frozen? ⟨X+1+1,0,none⟩=false:=by simp[World.frozen?,lS.out]
    have y1:W.cell? ⟨X+1+1,1,none⟩=some (.slice none 0 0):=by simp[World.cell?,lS.out]
    have z1:W.frozen? ⟨X+1+1,1,none⟩=false:=by simp[World.frozen?,lS.out]
    have y2:W.cell? ⟨X+1+1,2,none⟩=some (.string ⟨#[]⟩):=by simp[World.cell?,lS.out]
    have z2:W.frozen? ⟨X+1+1,2,none⟩=false:=by simp[World.frozen?,lS.out]
    have y3:W.cell? ⟨X+1+1,3,none⟩=some (.int .i64 0):=by simp[World.cell?,lS.out]
    have z3:W.frozen? ⟨X+1+1,3,none⟩=false:=by simp[World.frozen?,lS.out]
    have y4:W.cell? ⟨X+1+1,4,none⟩=some (.int .i64 0):=by simp[World.cell?,lS.out]
    have z4:W.frozen? ⟨X+1+1,4,none⟩=false:=by simp[World.frozen?,lS.out]
    have y5:W.cell? ⟨X+1+1,5,none⟩=some (.slice none 0 0):=by simp[World.cell?,lS.out]
    have z5:W.frozen? ⟨X+1+1,5,none⟩=false:=by simp[World.frozen?,lS.out]
    have y6:W.cell? ⟨X+1+1,6,none⟩=some (.slice none 0 0):=by simp[World.cell?,lS.out]
    have z6:W.frozen? ⟨X+1+1,6,none⟩=false:=by simp[World.frozen?,lS.out]
    have qZ:=jq fu;have sT:=jq ye;have LI:=jq oV;have NAD:Hid (∀ g,(Value.slice A5 n1 c5).ownBlock=some g->Zt<=g/\g<w6.heap.size):=jq (λg hg=>FA6.out.ltR g hg);have NBD:Hid (∀ g,(Value.slice A6 n4 c6).ownBlock=some g->Zt<=g/\g<w6.heap.size):=jq (λg hg=>FB6.out.ltR g hg);have NDD:Hid (∀ g,(Value.slice A7 n3 c7).ownBlock=some g->w3.heap.size<=g/\g<w6.heap.size):=jq (λg hg=>FD6.out.ltR g hg);clear hm hown aJ hK rl Nv mL DZ ye oV bd fu;gi_wp2_with fail;obtain⟨W',hW'⟩:∃ W',(((((((W.setCell ⟨X+1+1,0,none⟩ (.slice A5 n1 c5)).setCell ⟨X+1+1,1,none⟩ (.slice vA m vc)).setCell ⟨X+1+1,2,none⟩ (.string s)).setCell ⟨X+1+1,3,none⟩ (.int .i64 ty)).setCell ⟨X+1+1,4,none⟩ (.int .i64 life)).setCell ⟨X+1+1,5,none⟩ (.slice A7 n3 c7)).setCell ⟨X+1+1,6,none⟩ (.slice A6 n4 c6))=W':=⟨_,rfl⟩;have wD:W'.heap.size=W.heap.size:=by rw[<-hW'];simp
    have pZ:∀ k,k≠X+1+1->W'.heap[k]?=W.heap[k]?:=λk hk=>by rw[<-hW'];exact ((wQ _ _ _ k hk).trans ((wQ _ _ _ k hk).trans ((wQ _ _ _ k hk).trans ((wQ _ _ _ k hk).trans ((wQ _ _ _ k hk).trans ((wQ _ _ _ k hk).trans (wQ _ _ _ k hk)))))))
    have AM:Below X w W':=by rw[<-hW'];exact (((((((Su.out.setCell (p:=⟨X+1+1,0,none⟩) (by dsimp only;omega) _).setCell (p:=⟨X+1+1,1,none⟩) (by dsimp only;omega) _).setCell (p:=⟨X+1+1,2,none⟩) (by dsimp only;omega) _).setCell (p:=⟨X+1+1,3,none⟩) (by dsimp only;omega) _).setCell (p:=⟨X+1+1,4,none⟩) (by dsimp only;omega) _).setCell (p:=⟨X+1+1,5,none⟩) (by dsimp only;omega) _).setCell (p:=⟨X+1+1,6,none⟩) (by dsimp only;omega) _)
    have nY:W'.os=W.os/\W'.tape=W.tape/\W'.output=W.output:=by rw[<-hW'];simp[World.setCell]
    have nP:X+1+1≠D:=by omega
    have e0:W'.cell? ⟨X+1+1,0,none⟩=some (.slice A5 n1 c5):=by rw[<-hW'];simp[go_sem,y0]
    have e1:W'.cell? ⟨X+1+1,1,none⟩=some (.slice vA m vc):=by rw[<-hW'];simp[go_sem,y1]
    have e2:W'.cell? ⟨X+1+1,2,none⟩=some (.string s):=by rw[<-hW'];simp[go_sem,y2]
    have e3:W'.cell? ⟨X+1+1,3,none⟩=some (.int .i64 ty):=by rw[<-hW'];simp[go_sem,y3]
    have e4:W'.cell? ⟨X+1+1,4,none⟩=some (.int .i64 life):=by rw[<-hW'];simp[go_sem,y4]
    have e5:W'.cell? ⟨X+1+1,5,none⟩=some (.slice A7 n3 c7):=by rw[<-hW'];simp[go_sem,y5]
    have e6:W'.cell? ⟨X+1+1,6,none⟩=some (.slice A6 n4 c6):=by rw[<-hW'];simp[go_sem,y6]
    have f0:=(iQ (w:=W') (w':=W'.putObj D (.deferred none)) (a:=⟨X+1+1,0,none⟩) (zQ nP)).trans e0;have f1:=(iQ (w:=W') (w':=W'.putObj D (.deferred none)) (a:=⟨X+1+1,1,none⟩) (zQ nP)).trans e1;have f2:=(iQ (w:=W') (w':=W'.putObj D (.deferred none)) (a:=⟨X+1+1,2,none⟩) (zQ nP)).trans e2;have f3:=(iQ (w:=W') (w':=W'.putObj D (.deferred none)) (a:=⟨X+1+1,3,none⟩) (zQ nP)).trans e3;have f4:=(iQ (w:=W') (w':=W'.putObj D (.deferred none)) (a:=⟨X+1+1,4,none⟩) (zQ nP)).trans e4;have f5:=(iQ (w:=W') (w':=W'.putObj D (.deferred none)) (a:=⟨X+1+1,5,none⟩) (zQ nP)).trans e5;have f6:=(iQ (w:=W') (w':=W'.putObj D (.deferred none)) (a:=⟨X+1+1,6,none⟩) (zQ nP)).trans e6;have AR:W'.heap[D]?=some (.deferred (some [])):=(pZ D (by omega)).trans CZ.out;rw[hW'];have yo:∀ k,k≠X+1+1->k≠D->(W'.putObj D (.deferred none)).heap[k]?=W.heap[k]?:=λk h1 h2=>(zQ h2).trans (pZ k h1);have yL:(W'.putObj D (.deferred none)).heap.size=W.heap.size:=by simpa using wD
    refine nN AR (v:=.tuple #[.agg #[.slice A5 n1 c5,.slice vA m vc,.string s,.int .i64 ty,.int .i64 life,.slice A7 n3 c7,.slice A6 n4 c6],.int .i64 0]) (by simp[results,results25,go_sem,f0,f1,f2,f3,f4,f5,f6]) ⟨[.slice A5 n1 c5,.slice vA m vc,.string s,.int .i64 ty,.int .i64 life,.slice A7 n3 c7,.slice A6 n4 c6],E3 rfl (by rw[(Np.Dx HK.out).2]),?_,nL AM (by omega) _⟩;rw[(Np.Dx HK.out).1];have hZ:(Np.CG h t).zones=pl:=Lu.out;intro Mq yb;refine⟨.slice A5 n1 c5,.slice vA m vc,s,.slice A7 n3 c7,.slice A6 n4 c6,?_,HS.out.1,HS.out.2,?_,?_,?_,?_⟩
    rotate_left
    ·have h1:=((SV.out.heapR (w':=W'.putObj D (.deferred none)) (λg hg=>yo g (by have:=NAD.out g hg;omega) (by have:=NAD.out g hg;omega)) (λ_ _ h=>h)).sans (M:=Mq) (λk hk=>by have:=yb k hk;omega) (λ_ _ h=>h)).slr sh (by rw[gJ,yL];omega) (by have:=gW.out;omega);rw[gJ] at h1;exact h1
    ·rw[hZ];have h1:=fP.out.slr_sans (M':=λk=>(k=X+1+1\/k=D)\/Mq k) oh mr (λk hk=>by
      rcases hk with (rfl | rfl) | hk
      ·exact⟨.inr (.inr (λhs=>by have:=LI.out _ hs;omega)),λe=>by have:=(fP.out.lt _ e).1;omega⟩
      ·exact⟨.inr (.inr qZ.out),λe=>qZ.out (sT.out _ e)⟩
      ·have h2:=yb k hk;exact⟨.inr (.inr (λhs=>by have:=LI.out _ hs;omega)),λe=>by have:=(fP.out.lt _ e).1;omega⟩) (by omega)
     have h2:=(Leaves'.slr (M:=λk=>(k=X+1+1\/k=D)\/Mq k) (M':=λk=>(k=X+1+1\/k=D)\/Mq k) mq oh mr (w':=W'.putObj D (.deferred none)) ⟨nY.1,nY.2.1,nY.2.2,by rw[yL];exact bQ _,λi hi hm=>⟨hm,yo i (λe=>hm (.inl (.inl e))) (λe=>hm (.inl (.inr e)))⟩⟩ h1);exact h2.sans oh (λk hk=>.inr hk)
    ·have h1:=((qP.out.heapR (w':=W'.putObj D (.deferred none)) (λg hg=>yo g (by have:=NDD.out g hg;omega) (by have:=NDD.out g hg;omega)) (λ_ _ h=>h)).sans (M:=Mq) (λk hk=>by have:=yb k hk;omega) (λ_ _ h=>h)).slr du (by rw[gJ,yL];omega) (by have:=sN.out;omega);rw[gJ] at h1;exact h1
    ·have h1:=((SW.out.heapR (w':=W'.putObj D (.deferred none)) (λg hg=>yo g (by have:=NBD.out g hg;omega) (by have:=NBD.out g hg;omega)) (λ_ _ h=>h)).sans (M:=Mq) (λk hk=>by have:=yb k hk;omega) (λ_ _ h=>h)).slr sj (by rw[gJ,yL];omega) (by have:=uE.out;omega);rw[gJ] at h1;exact h1
    ·rw[<-eK.out.1,<-eK.out.2];rfl
   case round=>
    rintro l0 pre ⟨⟨xh,xf,xt,xs,xA,xn,xc⟩,cc⟩ S W bw hI eu;have iD:pre.length<=500:=by
     have h1:=bw.length_le;have h2:=List.length_filter_le (λx:CV×Np.Copy=>decide (x.1.frm<=t)&&decide (t<x.1.til)) L;have h3:=il.out.1;have h4:=nA.out;rw[List.length_append,List.length_singleton] at h1;omega
    have uP:Hid ((⟨⟨xh,xf,xt,xs,xA,xn,xc⟩,cc⟩:CV×Np.Copy)∈L):=jq ((List.mem_filter.1 (bw.subset (by simp:(⟨⟨xh,xf,xt,xs,xA,xn,xc⟩,cc⟩:CV×Np.Copy)∈_))).1);have lW:=UV hI ((vQ _ W).alloc (bQ _) (.cells #[.int .i64 xh,.int .i64 xf,.int .i64 xt,.string xs,.slice xA xn xc] 46));have tf:w6.heap.size<=W.heap.size:=by obtain⟨_,_,_,_,_,_,hB⟩:=hI;exact hB.size
    have sP:=jq bw;have oI:=jq iD;clear hI bw iD;gi_wp2;refine⟨λk=>S k\/k=W.heap.size,(RdStep.refl S W).alloc _,λk e=>e.imp id (λh=>by omega),λk e=>by rcases e with e | e;have:=eu k e;simp;omega;simp;omega,?_⟩;intro l W₂ av;have Ie:=Ms w6 b _ (by omega) pre S _ W₂ lW (av.weaken (bQ _) (λk e=>.inl e));have jA:=av.size;simp only[World.size_alloc] at jA;have gi:W₂.heap[W.heap.size]?=some (.cells #[.int .i64 xh,.int .i64 xf,.int .i64 xt,.string xs,.slice xA xn xc] 46):=(av.keep W.heap.size (by simp) (.inr (.inr rfl))).trans (heap_alloc_new _ _);obtain⟨zv,DZ,ye,oV,mL,hown,aJ⟩:=Ie;have G4:=jq ye;have eJ:=jq oV;have sU:=jq DZ;have GJ:=jq hown;have sR:=jq aJ;have ji:Hid (∀ k,S k->k<W₂.heap.size):=jq (λk e=>by have:=eu k e;omega);have py:Hid (CVOf w6 X ⟨xh,xf,xt,xs,xA,xn,xc⟩ cc):=jq (lO.out _ uP.out);have dw:Hid (Below X w6 W₂):=jq (aJ.below (by omega) (λk e=>by omega));obtain⟨sets,nZ⟩:∃ sets,cc.zone.sets=sets:=⟨_,rfl⟩;have sS:=jq nZ;have G0:Hid (SlR bk 5 W₂ X (.slice xA xn xc) sets):=jq (by have:=(py.out.keep dw.out).sets;rw[nZ] at this;exact this);have yI:sets.length=xn:=by rw[<-nZ];exact py.out.len
    have Zi:xn<=20000:=by rw[<-yI,<-nZ];exact il.out.2 cc (by rw[<-kY.out];exact List.mem_map.2 ⟨_,uP.out,rfl⟩)
    have uR:=jq yI;obtain⟨vA,vc,rfl⟩:=hown.form;obtain⟨m,hm⟩:∃ m,(pre.map λx:CV×Np.Copy=>Np.mp x.2).length=m:=⟨_,rfl⟩;rw[hm] at mL GJ G4;have HM:=jq hm;have qU:Hid (m<=500):=jq (by rw[<-hm,List.length_map];exact oI.out);obtain⟨zb,mh⟩:∃ zb,W₂.heap.size=zb:=⟨_,rfl⟩;have Xq:W₂.cell? ⟨W.heap.size,3,none⟩=some (.string xs):=by simp[World.cell?,gi]
    have Ea:W₂.cell? ⟨W.heap.size,4,none⟩=some (.slice xA xn xc):=by simp[World.cell?,gi]
    obtain⟨w7,rT⟩:∃ w7,W₂.alloc (.cells #[.string xs,.slice none 0 0] 44)=w7:=⟨_,rfl⟩;have po:w7.heap.size=zb+1:=by rw[<-rT,<-mh];simp
    have eP:Below zb W₂ w7:=by rw[<-rT,<-mh];exact (vQ _ _).alloc (bQ _) _
    have Pm:w7.heap[zb]?=some (.cells #[.string xs,.slice none 0 0] 44):=by rw[<-rT,<-mh];exact heap_alloc_new _ _
    have dcc4:=(cl eP (by omega)).trans Ea;have Uu:=jq Pm;have eI:=jq eP;have kV:=jq gi;have aU:=jq mL;have uS:=jq mh;have hXz:X+3<=zb:=by omega
    have h6z:w6.heap.size<=zb:=by omega
    have j9:b<zb:=by omega
    have rx:W.heap.size<zb:=by omega
    have Ui:=jq rT;have hcw:W.heap.size<W₂.heap.size:=by omega
    clear hm hown DZ ye oV aJ lW av gi nZ yI mL Pm eP eu mh rT;gi_wp2_with fail;rw[Ui.out,uS.out];clear Xq Ea;obtain⟨is0,yE,Ji,qf,jA⟩:=info_parts Tryz.infoSignedAt;obtain⟨pi0,Yt,Yw,Yx,Yy⟩:=info_parts Tryz.infoPlaced;gi_loopw [52] (λi wr=>∃ (j:Nat) (zA:Option Addr) (zc:Nat),j<=xn/\i = .int .i64 j/\zb+1<=wr.heap.size/\Hid (Below zb W₂ wr)/\Hid (wr.heap[zb]?=some (.cells #[.string xs,.slice zA j zc] 44))/\Hid (bE bk 5 42 (zb+1) (AtZ zb (.slice zA j zc)) wr (.slice zA j zc) (sets.take j))) (λi _=>xn - (intOf i).toNat)
    case atStart=>exact⟨0,none,0,jQ _,rfl,by omega,eI,Uu,jq (by rw[List.take_zero];exact bE.nil _)⟩
    case round=>
     obtain⟨j,zA,zc,hj,rfl,Pn,bH,fR,xK⟩:=hrel;by_cases aa:j<xn
     ·obtain⟨x,ab⟩:∃ x,sets[j]?=some x:=⟨_,aQ (by rw[uR.out];exact aa)⟩;obtain⟨b',o,c',ss,dv,sv,hA,hb',_,hs,B4,aV,aR,e0,e1,e2,e3,e4⟩:=eV (G0.out.keep ba (bH.out.mono (by omega))) ab;simp only[Value.slice.injEq] at hA;obtain⟨rfl,-,rfl⟩:=hA;have T5:Hid (sets.take (j+1)=sets.take j ++ [x]):=jq (by
       obtain⟨hl,he⟩:=cQ.1 ab;rw[fQ hl,he])
      have Gl:Hid ((sets.take j).length=j):=jq (by rw[List.length_take,uR.out];omega);have um:Hid (x.set.data.length<=1000000/\x.sigs.length<=1000000):=jq (by
       have hc:cc∈h.copies:=by rw[<-kY.out];exact List.mem_map.2 ⟨_,uP.out,rfl⟩
       have hx:x∈cc.zone.sets:=by rw[sS.out];exact gQ ab
       have:=Jg cc hc x hx
       omega)
      have jM:=jq (And.intro hs B4);have kr:Hid (∀ W',Below wr.heap.size wr W'->SlR bF 3 W' W'.heap.size dv x.set.data):=jq (λW' hb=>(aV.keep cH (hb.mono (by omega))).more du (by have:=hb.size;omega));have xC:Hid (∀ W',Below wr.heap.size wr W'->SlR dm 6 W' W'.heap.size sv x.sigs):=jq (λW' hb=>(aR.keep dH (hb.mono (by omega))).more fz (by have:=hb.size;omega));obtain⟨dA,dc,rfl,_,_⟩:=al aV;obtain⟨gA,gc,rfl,_,_⟩:=al aR;obtain⟨dn,pW⟩:∃ n,x.set.data.length=n:=⟨_,rfl⟩;obtain⟨gn,iB⟩:∃ n,x.sigs.length=n:=⟨_,rfl⟩;rw[pW] at e3 kr;rw[iB] at e4 xC;have F0:=jq pW;have xB:=jq iB;clear ab hs B4 aV aR pW iB;have bX:(0:Int)<=(j:Int):=by omega
      have bW:(j:Int)<(xn:Int):=by omega
      obtain⟨w8,f8⟩:∃ w8,wr.alloc (.cells #[.string ss,.int .i64 x.set.type,.int .i64 x.set.life,.slice dA dn dc,.slice gA gn gc] 42)=w8:=⟨_,rfl⟩;have ww:w8.heap.size=wr.heap.size+1:=by rw[<-f8];simp
      have gh:Below wr.heap.size wr w8:=by rw[<-f8];exact (vQ _ _).alloc (bQ _) _
      have p0:w8.cell? ⟨wr.heap.size,0,none⟩=some (.string ss):=by rw[<-f8];simp[go_sem]
      have p1:w8.cell? ⟨wr.heap.size,1,none⟩=some (.int .i64 x.set.type):=by rw[<-f8];simp[go_sem]
      have p2:w8.cell? ⟨wr.heap.size,2,none⟩=some (.int .i64 x.set.life):=by rw[<-f8];simp[go_sem]
      have p3:w8.cell? ⟨wr.heap.size,3,none⟩=some (.slice dA dn dc):=by rw[<-f8];simp[go_sem]
      have p4:w8.cell? ⟨wr.heap.size,4,none⟩=some (.slice gA gn gc):=by rw[<-f8];simp[go_sem]
      have rz:=(gh.block zb (by omega)).trans fR.out;have r1:w8.cell? ⟨zb,1,none⟩=some (.slice zA j zc):=by simp[World.cell?,rz]
      have Kz:=jq gh;have KA:=jq gh;clear gh;gi_wp2_with fail;clear f8 e0 e1 e2 e3 e4;refine zi λa0 cB=>?_;have mv:=jq cB;have gr:=jq (show a0.eval (.tmp 8) = .pointer (some ⟨zb,0,none⟩) by rw[cB];rfl);have sE:=jq (show a0.eval (.tmp 10) = .pointer (some ⟨wr.heap.size,0,none⟩) by rw[cB];rfl);have HM:=jq (show a0.tmps.size=74 by rw[cB];rfl);clear cB;refine Fq (by kernel_rfl) (by kernel_rfl) (by rintro⟨_,_,h⟩;exact h) ?_;refine iK (w:=w8.drew) (D:=[0,1,2,6]) (A:=[]) (p:=3) (dst:=gO) (val:=iu zb (.slice zA j zc) ss x.set.type x.set.life dA dn dc gA gn gc undef undef undef) (m:=74)
       (base:=dS a0 74 Aw) (iJ (by kernel_rfl)) (by simp) (by simp) (ij (by kernel_rfl)) ?_
       (λi hi=>(nJ i (by simp at hi |-;omega)).1) (λi hi j hj=>uX i (by simp at hi |-;omega) j (by simp at hj |-;omega)) (λi hi=>cZ (nJ i (by simp at hi |-;omega)).2) ?_ ?_ _ _ _ (Held.start (λq hq=>wT q hq) HM.out)
      ·intro i hi aH;simp only[List.mem_cons,Qh,or_false] at hi;rcases hi with rfl | rfl | rfl | rfl
       all_goals first | (exfalso;simp at aH;done) | exact⟨_,rfl,rfl⟩
      ·intro i hi aH o ho a' hb aY;have k8':=(bG hb (j:=8) (by decide) (by decide)).trans gr.out;have k10':=(bG hb (j:=10) (by decide) (by decide)).trans sE.out;simp[Act.eval] at k8' k10';simp only[List.mem_cons,Qh,or_false] at hi;rcases hi with rfl | rfl | rfl | rfl
       all_goals first
        | (exfalso;simp at aH;done)
        | (cases ho
           try simp[Act.eval,Region.binds,iu,gO] at aY
           refine .inl ⟨by simp[Region.wanted],λw' hw'=>?_⟩;subst hw';simp[Oper.quietAt,Oper.quietUpon,execOp,go_sem,iu,k8',k10',p0,p1,p2,p3,p4,r1,aY])
      ·intro f listed a' hH hr;obtain⟨_,o,ho,aA⟩:=mem_ready.1 hr
       cases ho
       have hG:=hH.good;have hval:=λi hi hl=>hG.val i hi hl;have bS:∀ k,({ on:=k,ground:=.data } : Edge)∈_->listed.getD k false=true:=λk hk=>aA _ hk rfl;have av2:=hval 2 (by simp) (bS 2 (by simp));simp[Act.eval,iu,gO] at av2;simp only[wpOp];simp[Region.wanted];refine .inl ?_;simp[Oper.wp,go_sem,av2];refine (MA ss x.set.type x.set.life _ x.set.data _ x.sigs um.out.1 um.out.2 w8.drew (kr.out w8.drew KA.out.drew) (xC.out w8.drew KA.out.drew)).mono ?_;rintro e w9 ⟨dv2,gv2,rfl,iy,NJ⟩;have dK:Below w8.heap.size w8 w9:=(vQ w8.heap.size w8).drew.trans NJ;have yK:=dK.size;replace p0:=(cl dK (by omega)).trans p0;replace p1:=(cl dK (by omega)).trans p1;replace p2:=(cl dK (by omega)).trans p2;replace p3:=(cl dK (by omega)).trans p3;replace p4:=(cl dK (by omega)).trans p4;replace r1:=(cl dK (by omega)).trans r1;replace rz:=(dK.block zb (by omega)).trans rz;have lK:Hid (Fv w8.heap.size w9 dv2 gv2 x.set.data x.sigs):=jq iy;obtain⟨dA2,dc2,rfl,_,_⟩:=al ((iy (λ_=>False) (λ_ e=>e.elim)).1);obtain⟨gA2,gc2,rfl,_,_⟩:=al ((iy (λ_=>False) (λ_ e=>e.elim)).2);rw[F0.out,xB.out] at lK |-;have Ty:=jq (xK.out.keep ba kn bY (Kz.out.trans (dK.mono (by omega))));have gK:=jq dK;clear iy dK NJ;dsimp only;refine iK (w:=w9) (D:=[0,1,2,6,3]) (A:=[3]) (p:=4) (dst:=gO) (val:=iu zb (.slice zA j zc) ss x.set.type x.set.life dA dn dc gA gn gc (.agg #[.string ss,.int .i64 x.set.type,.int .i64 x.set.life,.slice dA2 dn dc2,.slice gA2 gn gc2]) undef undef) (m:=74)
        (base:=dS a0 74 Aw) (iJ (by kernel_rfl)) (by simp) (by simp) (ij (by kernel_rfl)) ?_
        (λi hi=>(nJ i (by simp at hi |-;omega)).1) (λi hi j hj=>uX i (by simp at hi |-;omega) j (by simp at hj |-;omega)) (λi hi=>cZ (nJ i (by simp at hi |-;omega)).2) ?_ ?_ _ _ _ (hH.act (D':=[0,1,2,6,3]) (val':=iu zb (.slice zA j zc) ss x.set.type x.set.life dA dn dc gA gn gc (.agg #[.string ss,.int .i64 x.set.type,.int .i64 x.set.life,.slice dA2 dn dc2,.slice gA2 gn gc2]) undef undef) hr (by simp) (λi hi=>by simp at hi |-;omega) (λi hi=>by simp at hi;rcases hi with rfl | rfl | rfl | rfl <;> rfl) rfl (by simp[gO]) (λj hj=>uX 3 (by simp) j (by simp at hj |-;omega) (by rintro rfl;simp at hj)) (cZ (nJ 3 (by simp)).2) (by simp))
       ·intro i hi aH;simp only[List.mem_cons,Qh,or_false] at hi;rcases hi with rfl | rfl | rfl | rfl | rfl
        all_goals first | (exfalso;simp at aH;done) | exact⟨_,rfl,rfl⟩
       ·intro i hi aH o ho a' hb aY;have k8':=(bG hb (j:=8) (by decide) (by decide)).trans gr.out;have k10':=(bG hb (j:=10) (by decide) (by decide)).trans sE.out;simp[Act.eval] at k8' k10';simp only[List.mem_cons,Qh,or_false] at hi;rcases hi with rfl | rfl | rfl | rfl | rfl
        all_goals first
         | (exfalso;simp at aH;done)
         | (cases ho
            try simp[Act.eval,Region.binds,iu,gO] at aY
            refine .inl ⟨by simp[Region.wanted],λw' hw'=>?_⟩;subst hw';simp[Oper.quietAt,Oper.quietUpon,execOp,go_sem,iu,k8',k10',p0,p1,p2,p3,p4,r1,aY])
       ·intro f listed a' hH hr;obtain⟨_,o,ho,aA⟩:=mem_ready.1 hr
        cases ho
        have hG:=hH.good;have hval:=λi hi hl=>hG.val i hi hl;have bS:∀ k,({ on:=k,ground:=.data } : Edge)∈_->listed.getD k false=true:=λk hk=>aA _ hk rfl;have av3:=hval 3 (by simp) (bS 3 (by simp));simp[Act.eval,iu,gO] at av3;simp only[wpOp];simp[Region.wanted];refine .inl ?_;simp[Oper.wp,execOp,go_sem,av3];obtain⟨wX,nc⟩:∃ W,W=w9.alloc (.cells #[.string ss,.int .i64 x.set.type,.int .i64 x.set.life,.slice dA2 dn dc2,.slice gA2 gn gc2] 42):=⟨_,rfl⟩;rw[<-nc];have bB:Below w9.heap.size w9 wX:=by rw[nc];exact (vQ _ _).alloc (bQ _) _
        have Bk:ai wX w9.heap.size 0 [.string ss,.int .i64 x.set.type,.int .i64 x.set.life,.slice dA2 dn dc2,.slice gA2 gn gc2]:=λi v hi=>by
         rw[nc]
         match i,hi with
         | 0,hi=>cases hi;simp[go_sem]
         | 1,hi=>cases hi;simp[go_sem]
         | 2,hi=>cases hi;simp[go_sem]
         | 3,hi=>cases hi;simp[go_sem]
         | 4,hi=>cases hi;simp[go_sem]
         | i+5,hi=>simp at hi
        have Ph:=bB.size;replace p0:=(cl bB (by omega)).trans p0;replace p1:=(cl bB (by omega)).trans p1;replace p2:=(cl bB (by omega)).trans p2;replace p3:=(cl bB (by omega)).trans p3;replace p4:=(cl bB (by omega)).trans p4;replace r1:=(cl bB (by omega)).trans r1;replace rz:=(bB.block zb (by omega)).trans rz;have ea:=jq Bk;have FN:=jq bB;have Lo:=jq (Ty.out.keep ba kn bY bB);have li:Hid (bk (bi wX (AtZ zb (.slice zA j zc))) wX.heap.size [.string ss,.int .i64 x.set.type,.int .i64 x.set.life,.slice dA2 dn dc2,.slice gA2 gn gc2] x):=jq (by
         have h1:=lK.out (AtZ zb (.slice zA j zc)) (λk hk=>by
          rcases hk with hk | hk
          ·omega
          ·have:=(xK.out.lt k hk).2;omega)
         have h2:=(Leaves'.of_below (M:=AtZ zb (.slice zA j zc)) bB).slr cH wO du h1.1;have h3:=(Leaves'.of_below (M:=AtZ zb (.slice zA j zc)) bB).slr dH yY fz h1.2;exact⟨ss,_,_,jM.out.1,jM.out.2,h2,h3,rfl⟩)
        clear nc bB Bk;refine iK (w:=wX) (D:=[0,1,2,6,3,4]) (A:=[4,3]) (p:=5) (dst:=gO) (val:=iu zb (.slice zA j zc) ss x.set.type x.set.life dA dn dc gA gn gc (.agg #[.string ss,.int .i64 x.set.type,.int .i64 x.set.life,.slice dA2 dn dc2,.slice gA2 gn gc2]) (.slice (some ⟨w9.heap.size,0,none⟩) 1 1) undef) (m:=74)
         (base:=dS a0 74 Aw) (iJ (by kernel_rfl)) (by simp) (by simp) (ij (by kernel_rfl)) ?_
         (λi hi=>(nJ i (by simp at hi |-;omega)).1) (λi hi j hj=>uX i (by simp at hi |-;omega) j (by simp at hj |-;omega)) (λi hi=>cZ (nJ i (by simp at hi |-;omega)).2) ?_ ?_ _ _ _ (hH.act (D':=[0,1,2,6,3,4]) (val':=iu zb (.slice zA j zc) ss x.set.type x.set.life dA dn dc gA gn gc (.agg #[.string ss,.int .i64 x.set.type,.int .i64 x.set.life,.slice dA2 dn dc2,.slice gA2 gn gc2]) (.slice (some ⟨w9.heap.size,0,none⟩) 1 1) undef) hr (by simp) (λi hi=>by simp at hi |-;omega) (λi hi=>by simp at hi;rcases hi with rfl | rfl | rfl | rfl | rfl <;> rfl) rfl (by simp[gO]) (λj hj=>uX 4 (by simp) j (by simp at hj |-;omega) (by rintro rfl;simp at hj)) (cZ (nJ 4 (by simp)).2) (by simp))
        ·intro i hi aH;simp only[List.mem_cons,Qh,or_false] at hi;rcases hi with rfl | rfl | rfl | rfl | rfl | rfl
         all_goals first | (exfalso;simp at aH;done) | exact⟨_,rfl,rfl⟩
        ·intro i hi aH o ho a' hb aY;have k8':=(bG hb (j:=8) (by decide) (by decide)).trans gr.out;have k10':=(bG hb (j:=10) (by decide) (by decide)).trans sE.out;simp[Act.eval] at k8' k10';simp only[List.mem_cons,Qh,or_false] at hi;rcases hi with rfl | rfl | rfl | rfl | rfl | rfl
         all_goals first
          | (exfalso;simp at aH;done)
          | (cases ho
             try simp[Act.eval,Region.binds,iu,gO] at aY
             refine .inl ⟨by simp[Region.wanted],λw' hw'=>?_⟩;subst hw';simp[Oper.quietAt,Oper.quietUpon,execOp,go_sem,iu,k8',k10',p0,p1,p2,p3,p4,r1,aY])
        ·intro f listed a' hH hr;obtain⟨_,o,ho,aA⟩:=mem_ready.1 hr
         cases ho
         have hG:=hH.good;have hval:=λi hi hl=>hG.val i hi hl;have bS:∀ k,({ on:=k,ground:=.data } : Edge)∈_->listed.getD k false=true:=λk hk=>aA _ hk rfl;have av1:=hval 1 (by simp) (bS 1 (by simp));have av4:=hval 4 (by simp) (bS 4 (by simp));simp[iu,gO] at av1 av4;simp only[wpOp];simp[Region.wanted];refine .inl ?_;refine Kn (R:=bk) (M:=AtZ zb (.slice zA j zc)) wX (.tmp 57) (.tmp 60) 36 rfl (zb+1) 42 is0 (.agg #[.string ⟨#[]⟩,.int .i64 0,.int .i64 0,.slice none 0 0,.slice none 0 0]) 80 underlying36 yE Ji qf jA rfl (by decide) (.slice zA j zc) (sets.take j) av1 Lo.out (some ⟨w9.heap.size,0,none⟩) 1 [x] av4 (E6 rfl li.out ea.out) auK (by rw[Gl.out];simp[maxLen];omega) (by rw[Gl.out];simp;omega) (by omega) ba kn bY ?_;intro v8 wY fH cX j8;obtain⟨A8,c8,rfl⟩:=fH.formN (n:=j+1) (by rw[List.length_append,Gl.out];rfl);have pV:Below (zb+1) wX wY:=(vQ _ _).grown cX (by omega) (λg hg=>(Lo.out.lt g hg).1);have Pi:=pV.size;have BA:some wr.heap.size≠(Value.slice zA j zc).ownBlock:=λe=>by have:=(xK.out.lt _ e.symm).2;omega
         have Oo:wr.heap.size<wX.heap.size:=by omega
         have kF:=cX.block wr.heap.size Oo BA;replace p0:=(iQ (a:=⟨wr.heap.size,0,none⟩) kF).trans p0;replace p1:=(iQ (a:=⟨wr.heap.size,1,none⟩) kF).trans p1;replace p2:=(iQ (a:=⟨wr.heap.size,2,none⟩) kF).trans p2;replace p3:=(iQ (a:=⟨wr.heap.size,3,none⟩) kF).trans p3;replace p4:=(iQ (a:=⟨wr.heap.size,4,none⟩) kF).trans p4;replace r1:=(cl pV (by omega)).trans r1;replace rz:=(pV.block zb (by omega)).trans rz;have H8:=jq (And.intro fH (And.intro pV j8));clear fH cX j8 pV;refine iK (w:=wY) (D:=[0,1,2,6,3,4,5]) (A:=[5,4,3]) (p:=7) (dst:=gO) (val:=iu zb (.slice zA j zc) ss x.set.type x.set.life dA dn dc gA gn gc (.agg #[.string ss,.int .i64 x.set.type,.int .i64 x.set.life,.slice dA2 dn dc2,.slice gA2 gn gc2]) (.slice (some ⟨w9.heap.size,0,none⟩) 1 1) (.slice A8 (j+1) c8)) (m:=74)
          (base:=dS a0 74 Aw) (iJ (by kernel_rfl)) (by simp) (by simp) (ij (by kernel_rfl)) ?_
          (λi hi=>(nJ i (by simp at hi |-;omega)).1) (λi hi j hj=>uX i (by simp at hi |-;omega) j (by simp at hj |-;omega)) (λi hi=>cZ (nJ i (by simp at hi |-;omega)).2) ?_ ?_ _ _ _ (hH.act (D':=[0,1,2,6,3,4,5]) (val':=iu zb (.slice zA j zc) ss x.set.type x.set.life dA dn dc gA gn gc (.agg #[.string ss,.int .i64 x.set.type,.int .i64 x.set.life,.slice dA2 dn dc2,.slice gA2 gn gc2]) (.slice (some ⟨w9.heap.size,0,none⟩) 1 1) (.slice A8 (j+1) c8)) hr (by simp) (λi hi=>by simp at hi |-;omega) (λi hi=>by simp at hi;rcases hi with rfl | rfl | rfl | rfl | rfl | rfl <;> rfl) rfl (by simp[gO]) (λj hj=>uX 5 (by simp) j (by simp at hj |-;omega) (by rintro rfl;simp at hj)) (cZ (nJ 5 (by simp)).2) (by simp))
         ·intro i hi aH;simp only[List.mem_cons,Qh,or_false] at hi;rcases hi with rfl | rfl | rfl | rfl | rfl | rfl | rfl
          all_goals first | (exfalso;simp at aH;done) | exact⟨_,rfl,rfl⟩
         ·intro i hi aH o ho a' hb aY;have k8':=(bG hb (j:=8) (by decide) (by decide)).trans gr.out;have k10':=(bG hb (j:=10) (by decide) (by decide)).trans sE.out;simp[Act.eval] at k8' k10';simp only[List.mem_cons,Qh,or_false] at hi;rcases hi with rfl | rfl | rfl | rfl | rfl | rfl | rfl
          all_goals first
           | (exfalso;simp at aH;done)
           | (cases ho
              try simp[Act.eval,Region.binds,iu,gO] at aY
              refine .inl ⟨by simp[Region.wanted],λw' hw'=>?_⟩;subst hw';simp[Oper.quietAt,Oper.quietUpon,execOp,go_sem,iu,k8',k10',p0,p1,p2,p3,p4,r1,aY])
         ·intro f listed a' hH hr;obtain⟨_,o,ho,aA⟩:=mem_ready.1 hr
          cases ho
          have hG:=hH.good;have hval:=λi hi hl=>hG.val i hi hl;have bS:∀ k,({ on:=k,ground:=.data } : Edge)∈_->listed.getD k false=true:=λk hk=>aA _ hk rfl;obtain⟨rfl,dN⟩:=hH.all hr (by kernel_rfl);have av5:=hval 5 (by simp) (dN 5 (by simp) (by simp));have av6:=hval 6 (by simp) (dN 6 (by simp) (by simp));simp[Act.eval,iu,gO] at av5 av6;have lY:=Held.frame (D:=[0,1,2,6,3,4,5]) (dst:=gO) (a0:=a0) (m:=74) hH HM.out (λi hi=>dN i (by simp at hi |-;omega) (by simp at hi;omega)) (λi hi=>(nJ i (by simp at hi |-;omega)).1);simp only[wpOp];simp[Region.wanted];refine .inl ?_;have rf:wY.frozen? ⟨zb,1,none⟩=false:=by simp[World.frozen?,rz]
          simp[Oper.wp,execOp,go_sem,av5,av6,r1,rf];refine⟨wR (λi hi=>?_) (by rw[Array.size_setIfInBounds];exact hG.size),?_⟩
          ·by_cases hip:i=7
           ·subst hip;have hs:7<listed.size:=by rw[hG.size];exact hi
            simp[Array.getD,hs]
           ·exact nk (dN i hi hip)
          ·rw[lY,mv.out];simp[lD,Act.put,iu,gO];clear lY hval bS dN aA hG hH;clear p0 p1 p2 p3 p4 r1 rf;have fR:=jq rz;clear rz;gi_wp2_with fail;go_roundw
           case measure=>simp[intOf] <;> omega
           case rel=>
            refine⟨j+1,A8,c8,by omega,by go_num,by simp[World.setCell];omega,jq ?_,jq ?_,jq ?_⟩
            ·exact ((bH.out.trans (((Kz.out.mono (by omega)).trans ((gK.out.mono (by omega)).trans (FN.out.mono (by omega)))).trans (H8.out.2.1.mono (by omega))))).setCell (by dsimp only;omega) _
            ·simp[World.setCell,Array.getElem?_modify,fR.out]
            ·rw[T5.out];refine H8.out.1.leaves ba kn bY ⟨rfl,rfl,rfl,by simp[World.setCell],λi hi hm=>⟨λe=>hm ?_,wQ _ _ _ _ (λe=>hm (.inl (.inl (by rw[e];exact bQ _))))⟩⟩ (λg hg=>⟨wQ _ _ _ _ (λe=>by have:=(H8.out.1.lt g hg).1;rw[e] at this;dsimp only at this;omega),.inr hg⟩);rcases e with e | e
             ·exact .inl (.inl e)
             ·exact .inr e
     ·obtain rfl:j=xn:=by omega
      have eK:Hid (sets.take j=sets):=jq (kQ (by rw[uR.out];exact bQ _));rw[eK.out] at xK;have mI:=bH.out;have gj:∀ g,(Value.slice vA m vc).ownBlock=some g->w6.heap.size<=g/\g<zb:=λg hg=>by have:=GJ.out.lt g hg;rw[uS.out] at this;exact this
      have Ci:∀ g,(Value.slice zA j zc).ownBlock=some g->zb+1<=g/\g<wr.heap.size:=λg hg=>xK.out.lt g hg;have Ns:Below W₂.heap.size W₂ wr:=by rw[uS.out];exact mI
      have NT:=(mI.block W.heap.size rx).trans kV.out;have D7:wr.cell? ⟨W.heap.size,0,none⟩=some (.int .i64 xh):=by simp[World.cell?,NT]
      have cK:=(mI.block b j9).trans aU.out;have NH:wr.cell? ⟨b,1,none⟩=some (.slice vA m vc):=by simp[World.cell?,cK]
      have a5X:wr.cell? ⟨zb,0,none⟩=some (.string xs):=by simp[World.cell?,fR.out]
      have a5Y:wr.cell? ⟨zb,1,none⟩=some (.slice zA j zc):=by simp[World.cell?,fR.out]
      obtain⟨M13,Nn⟩:∃ M13:Nat->Prop,M13=AtM b w6.heap.size (.slice vA m vc) (λk=>S k\/zb<=k):=⟨_,rfl⟩;have xG:Hid (∀ k,M13 k↔k=b\/(Value.slice vA m vc).ownBlock=some k\/¬ (S k\/zb<=k)):=jq (λk=>by rw[Nn];exact Iff.rfl);have C8:Hid (bE lT 3 72 w6.heap.size M13 wr (.slice vA m vc) (pre.map λx:CV×Np.Copy=>Np.mp x.2)):=jq (by
       have h1:=GJ.out.keep mq oh mr Ns;refine h1.leaves mq oh mr ((Leaves'.refl _ wr).more (λk e=>.inl ?_)) (λg hg=>⟨rfl,(xG.out g).2 (.inr (.inl hg))⟩);rcases (xG.out k).1 e with e | e | e2
       ·exact .inl e
       ·exact .inr (.inl e)
       ·exact .inr (.inr (λhs=>e2 (.inl hs))))
      obtain⟨wX,nc⟩:∃ wX,wr.alloc (.cells #[.int .i64 xh,.string xs,.slice zA j zc] 72)=wX:=⟨_,rfl⟩;have bB:Below wr.heap.size wr wX:=by rw[<-nc];exact (vQ _ _).alloc (bQ _) _
      have Ph:wX.heap.size=wr.heap.size+1:=by rw[<-nc];simp
      have ea:Hid (ai wX wr.heap.size 0 [.int .i64 xh,.string xs,.slice zA j zc]):=jq (λi v hi=>by
       rw[<-nc]
       match i,hi with
       | 0,hi=>cases hi;simp[go_sem]
       | 1,hi=>cases hi;simp[go_sem]
       | 2,hi=>cases hi;simp[go_sem]
       | i+3,hi=>simp at hi)
      have TV:Hid (lT (bi wX M13) wX.heap.size [.int .i64 xh,.string xs,.slice zA j zc] (Np.mp cc)):=jq (by
       have h1:=xK.out.slr_sans (M':=M13) kn bY (λk hk=>by
        rcases (xG.out k).1 hk with e | e | e2
        ·exact⟨.inl (by omega),λe'=>by have:=Ci k e';omega⟩
        ·have h2:=gj k e;exact⟨.inl (by omega),λe'=>by have:=Ci k e';omega⟩
        ·have h3:¬ zb<=k:=λh=>e2 (.inr h);exact⟨.inl (by omega),λe'=>by have:=Ci k e';omega⟩) (by rw[uR.out];omega)
       have h2:=(Leaves'.of_below (M:=M13) bB).slr ba kn bY h1;have e1:(Np.mp cc)=⟨xh,cc.zone⟩:=by unfold Np.mp;rw[<-py.out.host]
       rw[e1];exact⟨xs,_,py.out.apex,py.out.size,by rw[sS.out];exact h2,rfl⟩)
      have TC:=jq (C8.out.keep mq oh mr bB);have xq:=jq bB;have KL:=jq mI;have Sm:=jq ((bB.block b (by omega)).trans cK);have K0:=jq gj;clear Nn gj Ci Ns NT cK bB mI;gi_wp2_with (first
       | (gi_at_builtin;refine RQ rfl (by intro c h;cases h) (by rintro⟨_,_,h⟩;exact h) ?_;refine Km (R:=lT) (M:=M13) wX rfl _ _ 66 rfl w6.heap.size 72 pi0 (.agg #[.int .i64 0,.string ⟨#[]⟩,.slice none 0 0]) 48 underlying66 Yt Yw Yx Yy rfl (by decide) (.slice vA m vc) _ rfl TC.out (some ⟨wr.heap.size,0,none⟩) 1 [Np.mp cc] rfl (E6 rfl TV.out ea.out) auZ (by rw[HM.out];have:=qU.out;simp[maxLen];omega) (by rw[HM.out];have:=qU.out;simp;omega) (by omega) mq oh mr ?_;intro v8 wY fH cX j8;obtain⟨A8,c8,rfl⟩:=fH.formN (n:=m+1) (by rw[List.length_append,HM.out];rfl);have pV:=(cX.block b (by omega) (λe=>by have:=(K0.out b e.symm).1;omega)).trans Sm.out;have zy:=jq pV;have y1:wY.cell? ⟨b,1,none⟩=some (.slice vA m vc):=(by simp[World.cell?,pV]);have z1:wY.frozen? ⟨b,1,none⟩=false:=(by simp[World.frozen?,pV]);have Pi:=cX.size;have H8:=jq (And.intro fH (And.intro cX j8));clear fH cX j8 pV;refine RR ?_))
      have Je:∀ k,(Value.slice A8 (m+1) c8).ownBlock=some k->(Value.slice vA m vc).ownBlock=some k\/wX.heap.size=k:=λk e=>by
       rcases H8.out.2.2 with h | h
       ·exact .inl (h ▸ e)
       ·rw[h] at e;exact .inr (Option.some.inj e)
      have IX:∀ k,(Value.slice A8 (m+1) c8).ownBlock=some k->w6.heap.size<=k/\k<wY.heap.size:=λk e=>H8.out.1.lt k e;obtain⟨W',hW'⟩:∃ W',wY.setCell ⟨b,1,none⟩ (.slice A8 (m+1) c8)=W':=⟨_,rfl⟩;have wD:W'.heap.size=wY.heap.size:=by rw[<-hW'];simp
      have pZ:∀ k,k≠b->W'.heap[k]?=wY.heap[k]?:=λk hk=>by rw[<-hW'];exact wQ _ _ _ _ hk
      have Xb:W'.heap[b]?=some (.cells #[.slice A5 n1 c5,.slice A8 (m+1) c8,.string s,.int .i64 ty,.int .i64 life,.slice A7 n3 c7,.slice A6 n4 c6] 68):=by rw[<-hW'];simp[World.setCell,Array.getElem?_modify,zy.out]
      have zR:Hid (RdStep (λk=>S k\/k=W.heap.size) W₂ W'):=jq (by
       rw[<-hW'];exact ((RdStep.of_below (S:=λk=>S k\/k=W.heap.size) (by rw[uS.out];exact KL.out.trans (xq.out.mono (by omega)))).grown H8.out.2.1 (λk e=>.inl (.inl (G4.out k e)))).setCell (.inl (.inl sU.out)) _)
      have uG:Hid (RdStep (λk=>k=b) w6 W'):=jq (by
       rw[<-hW'];exact ((sR.out.then_below (by rw[uS.out];exact KL.out.trans (xq.out.mono (by omega)))).grown H8.out.2.1 (λk e=>.inr (K0.out k e).1)).setCell (.inl rfl) _)
      rw[hW'];refine⟨λk=>S k\/(zb<=k/\k<W'.heap.size),zR.out,λk e=>?_,λk e=>?_,.slice A8 (m+1) c8,.inl sU.out,λg hg=>?_,λk e=>?_,Xb,?_,uG.out⟩
      ·rcases e with e | e
       ·exact .inl (.inl e)
       ·right;rw[uS.out];exact e.1
      ·rcases e with e | e
       ·have:=ji.out k e;rw[uS.out] at this;omega
       ·exact e.2
      ·rcases Je g hg with e | e
       ·exact .inl (G4.out g e)
       ·right;have:=(IX g hg).2;omega
      ·rcases e with e | e
       ·exact eJ.out k e
       ·right;omega
      ·rw[List.map_append];refine H8.out.1.leaves mq oh mr ⟨by rw[<-hW'];rfl,by rw[<-hW'];rfl,by rw[<-hW'];rfl,by omega,λi hi hm=>⟨λe=>hm ?_,pZ i (λe=>hm (.inl ((xG.out i).2 (.inl e))))⟩⟩ (λg hg=>⟨pZ g (λe=>by have:=(IX g hg).1;omega),.inr (.inl hg)⟩);rcases e with e | e | e2
       ·exact .inl ((xG.out i).2 (.inl e))
       ·exact .inr e
       ·exact .inl ((xG.out i).2 (.inr (.inr (λh=>e2 (by
         rcases h with h | h
         ·exact .inl h
         ·exact .inr ⟨h,by omega⟩)))))
end
end Go.Proofs.YtfnopgdcaanaiaaGreatDoor
