/- Parts of the proof. No condition. -/
import Derived.Test.YtbfbobfbgabjiaaGreatDoorM24
set_option linter.all false
set_option maxRecDepth 100000
set_option maxHeartbeats 8000000
namespace Go.Proofs.YtbfbobfbgabjiaaGreatDoor
open Go.Proofs.Tryz
section
open Go.RowKit Go.Shelf
attribute [local go_sem] Oper.semAt_some CV.cells
def kg(X:Nat)(A1:Option Addr)(n1 c1:Nat)(s:ByteArray)(ty life:Int)(A3:Option Addr)(n3 c3:Nat)(A4:Option Addr)(n4 c4:Nat)(e:Nat->Value)(i:Nat):Value:=[.pointer (some ⟨X,0,none⟩),.slice A1 n1 c1,e 2,.pointer (some ⟨X,2,none⟩),.agg #[.string s,.int .i64 ty,.int .i64 life,.slice A3 n3 c3],.pointer (some ⟨X,6,none⟩),.slice A4 n4 c4,e 7,.agg #[(e 2),.slice none 0 0,.string s,.int .i64 ty,.int .i64 life,.slice A3 n3 c3,(e 7)],e 9,undef].getD i undef
def tL(i:Nat):Nat:=[25,26,27,28,29,30,31,32,33,6,0].getD i 0
def mK(i:Nat):List Nat:=[[],[],[2],[],[],[],[],[7],[2,7],[9],[]].getD i []
theorem Pu(X:Nat)(A1:Option Addr)(n1 c1:Nat)(s:ByteArray)(ty life:Int)(A3:Option Addr)(n3 c3:Nat)(A4:Option Addr)(n4 c4:Nat)(i:Nat)(e e':Nat->Value)(h:∀ j∈mK i,e j=e' j):kg X A1 n1 c1 s ty life A3 n3 c3 A4 n4 c4 e i=kg X A1 n1 c1 s ty life A3 n3 c3 A4 n4 c4 e' i:=by
 match i,h with
 | 0,_=>rfl
 | 1,_=>rfl
 | 2,h=>simp[kg,h 2 (by simp[mK])]
 | 3,_=>rfl
 | 4,_=>rfl
 | 5,_=>rfl
 | 6,_=>rfl
 | 7,h=>simp[kg,h 7 (by simp[mK])]
 | 8,h=>simp[kg,h 2 (by simp[mK]),h 7 (by simp[mK])]
 | 9,h=>simp[kg,h 9 (by simp[mK])]
 | 10,_=>rfl
 | _+11,_=>rfl
def Ea(v2 v7:Value)(b i:Nat):Value:=if i=2 then v2 else if i=7 then v7 else .pointer (some ⟨b,0,none⟩)
theorem Ym{e:Nat->Value}{v2 v7:Value}{b i j:Nat}(h2:e 2=v2)(h7:e 7=v7)(h9:e 9 = .pointer (some ⟨b,0,none⟩))(hj:j∈mK i):e j=Ea v2 v7 b j:=by
 have hT:j=2\/j=7\/j=9:=by
  match i,hj with
  | 0,hj | 1,hj | 2,hj | 3,hj | 4,hj | 5,hj | 6,hj | 7,hj | 8,hj | 9,hj | 10,hj=>simp[mK] at hj <;> omega
  | _+11,hj=>simp[mK] at hj
 rcases hT with rfl | rfl | rfl
 ·exact h2
 ·exact h7
 ·exact h9
def jr(zb:Nat)(zv:Value)(ss:ByteArray)(sty slf:Int)(dA:Option Addr)(dn dc:Nat)(gA:Option Addr)(gn gc:Nat)(e3:Value)(e4:Value)(e5:Value)(i:Nat):Value:=[.pointer (some ⟨zb,1,none⟩),zv,.agg #[.string ss,.int .i64 sty,.int .i64 slf,.slice dA dn dc,.slice gA gn gc],e3,e4,e5,.pointer (some ⟨zb,1,none⟩),undef].getD i undef
def iE(i:Nat):Nat:=[56,57,58,59,60,61,62,0].getD i 0
def Aw:List Nat:=[0,1,2,6,3,4,5].map iE
theorem oz:∀ i∈[0,1,2,6,3,4,5],iE i<74/\iE i∈Aw:=by decide
theorem ve:∀ i∈[0,1,2,6,3,4,5],∀ j∈[0,1,2,6,3,4,5],j≠i->iE i≠iE j:=by decide
def Pe(a0:Act)(X:Nat)(A1:Option Addr)(n1 c1:Nat)(s:ByteArray)(ty life:Int)(A3:Option Addr)(n3 c3:Nat)(A4:Option Addr)(n4 c4:Nat)(h:Np.Hist)(Zt:Nat)(w2:World):Exit->Act->World->Prop:=λe a' w'=>e=Exit.normal/\∃ A5 c5 A6 c6 b,a'=jJ a0 ([0,1,3,4,5,6,8,2,7,9].map λi=>(tL i,kg X A1 n1 c1 s ty life A3 n3 c3 A4 n4 c4 (Ea (.slice A5 n1 c5) (.slice A6 n4 c6) b) i))/\bF gW 3 64 Zt Zt w' (.slice A5 n1 c5) h.hosts/\bF ip 1 3 Zt Zt w' (.slice A6 n4 c6) h.hints/\w'.heap[b]?=some (.cells #[.slice A5 n1 c5,.slice none 0 0,.string s,.int .i64 ty,.int .i64 life,.slice A3 n3 c3,.slice A6 n4 c6] 34)/\Zt<=b/\b<w'.heap.size/\(Value.slice A5 n1 c5).ownBlock≠some b/\(Value.slice A6 n4 c6).ownBlock≠some b/\Below Zt w2 w'
theorem bF.weakR{α:Type}{R:World->Nat->List Value->α->Prop}{sz:Nat}{e:TypeId}{base B base':Nat}{w:World}{v:Value}{xs:List α}(h:bF R sz e base B w v xs)(hb:base'<=base)(hr:∀ r x,R w B r x->R w base' r x):bF R sz e base' base' w v xs:=by
 obtain⟨rows,h1,h2,h3⟩:=h;exact⟨rows,h1,⟨h2.1,by
  rcases h2.2 with h | ⟨g,cap,cur,h4,h5,h6⟩
  ·exact .inl h
  ·exact .inr ⟨g,cap,cur,h4,yQ hb h5,h6⟩⟩,λi r x hr' hx=>⟨(h3 i r x hr' hx).1,hr _ _ (h3 i r x hr' hx).2⟩⟩
theorem bF.ltR{α:Type}{R:World->Nat->List Value->α->Prop}{sz:Nat}{e:TypeId}{base B:Nat}{w:World}{v:Value}{xs:List α}(h:bF R sz e base B w v xs):∀ g,v.ownBlock=some g->base<=g/\g<w.heap.size:=by
 obtain⟨rows,h1,h2,h3⟩:=h;exact h2.lt
theorem bF.heapR{α:Type}{R:World->Nat->List Value->α->Prop}{sz:Nat}{e:TypeId}{base B:Nat}{w w':World}{v:Value}{xs:List α}(h:bF R sz e base B w v xs)(hk:∀ g,v.ownBlock=some g->w'.heap[g]?=w.heap[g]?)(hr:∀ r x,R w B r x->R w' B r x):bF R sz e base B w' v xs:=by
 obtain⟨rows,h1,h2,h3⟩:=h;exact⟨rows,h1,fL h2 hk,λi r x hr' hx=>⟨(h3 i r x hr' hx).1,hr _ _ (h3 i r x hr' hx).2⟩⟩
structure At3Inv(h:Np.Hist)(Zt n1 n4:Nat)(w2:World)(A:List Nat)(e:Nat->Value)(u:World):Prop where
 below:Below Zt w2 u
 lt:Zt<=u.heap.size
 hosts:2∈A->∃ A5 c5,e 2 = .slice A5 n1 c5/\bF gW 3 64 Zt Zt u (e 2) h.hosts
 hints:7∈A->∃ A6 c6,e 7 = .slice A6 n4 c6/\bF ip 1 3 Zt Zt u (e 7) h.hints
 box:9∈A->∃ b,e 9 = .pointer (some ⟨b,0,none⟩)/\Zt<=b/\b<u.heap.size/\u.heap[b]?=some (.cells #[.slice none 0 0,.slice none 0 0,.string ⟨#[]⟩,.int .i64 0,.int .i64 0,.slice none 0 0,.slice none 0 0] 34)/\(2∈A->(e 2).ownBlock≠some b)/\(7∈A->(e 7).ownBlock≠some b)
theorem At3Inv.keep{h:Np.Hist}{Zt n1 n4:Nat}{w2:World}{A:List Nat}{e:Nat->Value}{u u':World}(k:At3Inv h Zt n1 n4 w2 A e u)(hb:Below u.heap.size u u'):At3Inv h Zt n1 n4 w2 A e u':=
 ⟨k.below.trans (hb.mono k.lt),yQ k.lt hb.size,λh=>(k.hosts h).imp λ_ h=>h.imp λ_ h=>⟨h.1,h.2.keep fF hb k.lt⟩,λh=>(k.hints h).imp λ_ h=>h.imp λ_ h=>⟨h.1,h.2.keep iU hb k.lt⟩,λh=>(k.box h).imp λb h=>⟨h.1,h.2.1,lQ h.2.2.1 hb.size,(hb.block b h.2.2.1).trans h.2.2.2.1,h.2.2.2.2⟩⟩
theorem At3Inv.host{h:Np.Hist}{Zt n1 n4:Nat}{w2:World}{A:List Nat}{e:Nat->Value}{u u':World}(k:At3Inv h Zt n1 n4 w2 A e u)(_:2∉A)(hb:Below u.heap.size u u'){A5:Option Addr}{c5:Nat}(ho:bF gW 3 64 u.heap.size u.heap.size u' (.slice A5 n1 c5) h.hosts):At3Inv h Zt n1 n4 w2 (2::A) (tO e 2 (.slice A5 n1 c5)) u':=by
 have k2:=k.keep hb;refine⟨k2.below,k2.lt,λ_=>⟨A5,c5,rfl,ho.weakR k.lt (λ_ _ h=>h)⟩,λh7=>k2.hints (by simpa using h7),λh9=>?_⟩;obtain⟨b,h1,h2,h3,h4,h5,h6⟩:=k2.box (by simpa using h9);obtain⟨b',h1',_,h3',_⟩:=k.box (by simpa using h9);rw[h1] at h1'
 cases h1'
 exact⟨b,h1,h2,h3,h4,(λ_=>λe=>by have:=(ho.ltR _ e).1; omega),λh7=>h6 (by simpa using h7)⟩
theorem At3Inv.hint{h:Np.Hist}{Zt n1 n4:Nat}{w2:World}{A:List Nat}{e:Nat->Value}{u u':World}(k:At3Inv h Zt n1 n4 w2 A e u)(_:7∉A)(hb:Below u.heap.size u u'){A6:Option Addr}{c6:Nat}(ho:bF ip 1 3 u.heap.size u.heap.size u' (.slice A6 n4 c6) h.hints):At3Inv h Zt n1 n4 w2 (7::A) (tO e 7 (.slice A6 n4 c6)) u':=by
 have k2:=k.keep hb;refine⟨k2.below,k2.lt,λh2=>k2.hosts (by simpa using h2),λ_=>⟨A6,c6,rfl,ho.weakR k.lt (λ_ _ h=>h)⟩,λh9=>?_⟩;obtain⟨b,h1,h2,h3,h4,h5,h6⟩:=k2.box (by simpa using h9);obtain⟨b',h1',_,h3',_⟩:=k.box (by simpa using h9);rw[h1] at h1'
 cases h1'
 exact⟨b,h1,h2,h3,h4,λh2=>h5 (by simpa using h2),(λ_=>λe=>by have:=(ho.ltR _ e).1; omega)⟩
theorem At3Inv.made{h:Np.Hist}{Zt n1 n4:Nat}{w2:World}{A:List Nat}{e:Nat->Value}{u:World}(k:At3Inv h Zt n1 n4 w2 A e u):At3Inv h Zt n1 n4 w2 (9::A) (tO e 9 (.pointer (some ⟨u.heap.size,0,none⟩))) (u.alloc (.cells #[.slice none 0 0,.slice none 0 0,.string ⟨#[]⟩,.int .i64 0,.int .i64 0,.slice none 0 0,.slice none 0 0] 34)):=by
 have hb:Below u.heap.size u (u.alloc (.cells #[.slice none 0 0,.slice none 0 0,.string ⟨#[]⟩,.int .i64 0,.int .i64 0,.slice none 0 0,.slice none 0 0] 34)):=(vQ _ _).alloc (bQ _) _;have k2:=k.keep hb;refine⟨k2.below,k2.lt,λh2=>k2.hosts (by simpa using h2),λh7=>k2.hints (by simpa using h7),λ_=>⟨u.heap.size,rfl,k.lt,by simp,heap_alloc_new _ _,λh2=>?_,λh7=>?_⟩⟩
 ·obtain⟨A5,c5,h3,h4⟩:=k.hosts (by simpa using h2);exact λe=>by have:=(h4.ltR _ e).2; omega
 ·obtain⟨A6,c6,h3,h4⟩:=k.hints (by simpa using h7);exact λe=>by have:=(h4.ltR _ e).2; omega
def AtM(b _B:Nat)(zv:Value)(S:Nat->Prop)(k:Nat):Prop:=k=b\/zv.ownBlock=some k\/¬ S k
theorem Wb{w:World}{B:Nat}{L:List (CV×Np.Copy)}(h:∀ x∈L,CVOf w B x.1 x.2)(t:Int):(Np.bS (L.map (·.2)) t).map Np.eV=(L.filter λx=>decide (x.1.frm<=t)&&decide (t<x.1.til)).map λx:CV×Np.Copy=>Np.eV x.2:=by
 induction L with
 | nil=>rfl
 | cons x L ih=>
  have hx:=h x (by simp);have ih:=ih (λy hy=>h y (mQ _ hy));unfold Np.bS at ih |-;rw[List.map_cons,List.filter_cons,List.filter_cons,hx.frm,hx.til];split
  ·rw[List.map_cons,List.map_cons,ih]
  ·exact ih
def AtZ(zb:Nat)(zv:Value)(k:Nat):Prop:=k<=zb\/zv.ownBlock=some k
theorem Tryz.infoSignedAt:(prog.info? 68).map (λi=>(i.zero,i.size,i.bytes))=some (some (.agg #[.string ⟨#[]⟩,.int .i64 0,.int .i64 0,.slice none 0 0,.slice none 0 0]),5,80):=by kernel_rfl
def AtI(w6:World)(b:Nat)(wc:Value->Array Value)(pre:List (CV×Np.Copy))(S:Nat->Prop)(W:World):Prop:=
 ∃ zv,S b/\(∀ g,zv.ownBlock=some g->S g)/\(∀ k,S k->k=b\/w6.heap.size<=k)/\W.heap[b]?=some (.cells (wc zv) 34)/\bJ il 3 60 w6.heap.size (AtM b w6.heap.size zv S) W zv (pre.map λx=>Np.eV x.2)/\RdStep (λk=>k=b) w6 W
theorem NE(w6:World)(b:Nat)(wc:Value->Array Value)(_hb:b<w6.heap.size):gh w6.heap.size (AtI w6 b wc):=by
 rintro pre S W W' ⟨zv,h1,h2,h3,h4,h5,h6⟩ aB;refine⟨zv,h1,h2,h3,(aB.keep b (eQ.1 h4).1 (.inr h1)).trans h4,h5.leaves ig jj gT ⟨aB.os,aB.tape,aB.output,aB.size,λi hi hm=>⟨hm,aB.keep i hi ?_⟩⟩ (λg hg=>⟨aB.keep g (h5.lt g hg).2 (.inr (h2 g hg)),.inr (.inl hg)⟩),⟨aB.os.trans h6.os,aB.tape.trans h6.tape,aB.output.trans h6.output,yQ h6.size aB.size,λk hk JV=>(aB.keep k (lQ hk h6.size) (.inl hk)).trans (h6.keep k hk JV)⟩⟩;exact .inr (Classical.byContradiction λhs=>hm (.inr (.inr hs)))
theorem Yl{w6:World}{b:Nat}{wc:Value->Array Value}{pre:List (CV×Np.Copy)}{S:Nat->Prop}{W W':World}(h:AtI w6 b wc pre S W)(hb:Below W.heap.size W W'):AtI w6 b wc pre S W':=by
 obtain⟨zv,h1,h2,h3,h4,h5,h6⟩:=h;exact⟨zv,h1,h2,h3,(hb.block b (eQ.1 h4).1).trans h4,h5.keep ig jj gT hb,h6.then_below hb⟩
theorem abJ(e:List Value)(h:Np.Hist)(hf:Np.oR h)(hq:h.hosts.length<=100000/\h.hints.length<=100000/\h.anchor.data.length<=100000)(I3:∀ c∈h.copies,∀ x∈c.zone.sets,x.set.data.length<=100000/\x.sigs.length<=100000)(t:Int)(w:World)(hR:iW w w.heap.size)(hh:bw w w.heap.size e h) :
 Calls prog 12 #[.agg e.toArray,.int .i64 t] w λe w'=>∃ e',e = .returned (.tuple #[.agg e'.toArray,.int .i64 (Np.atE h t)])/\AL lw 0 w.heap.size w' e' (Np.atW h t)/\Below w.heap.size w w':=by
 have gS:=jq hh;obtain⟨hv,cv,s,dv,cj,rfl,aZ,b7,h3,h4,h5,h6⟩:=hh;obtain⟨ty,dD⟩:∃ ty,h.anchor.type=ty:=⟨_,rfl⟩;obtain⟨life,mu⟩:∃ life,h.anchor.life=life:=⟨_,rfl⟩;obtain⟨drift,pT⟩:∃ drift,h.drift=drift:=⟨_,rfl⟩;obtain⟨stop,gj⟩:∃ stop,h.stop=stop:=⟨_,rfl⟩;have H3:=jq h3;have H4:=jq h4;have H5:=jq h5;have H6:=jq h6;have HS:=jq (And.intro aZ b7);have cR:=jq hf;have ck:=jq gj;have fe:=jq (And.intro dD mu);obtain⟨A1,c1,rfl,_,_⟩:=ag h3;obtain⟨A2,c2,rfl,_,_⟩:=ag h4;obtain⟨A3,c3,rfl,_,_⟩:=ag h5;obtain⟨A4,c4,rfl,_,_⟩:=ag h6;clear h3 h4 h5 h6 aZ b7 hf;obtain⟨n1,aJ⟩:∃ n,h.hosts.length=n:=⟨_,rfl⟩;obtain⟨n2,aK⟩:∃ n,h.copies.length=n:=⟨_,rfl⟩;obtain⟨n3,bk⟩:∃ n,h.anchor.data.length=n:=⟨_,rfl⟩;obtain⟨n4,bl⟩:∃ n,h.hints.length=n:=⟨_,rfl⟩;rw[aJ] at H3;rw[aK] at H4;rw[bk] at H5;rw[bl] at H6;rw[aJ,aK,bk,bl,dD,mu,pT,gj] at gS |-;have iA:=jq aK;have ix:=jq aJ;have sD:=jq bl;have uV:=jq bk;rw[aJ,bk,bl] at hq;clear aJ aK bk bl dD mu pT gj;obtain⟨r,hr⟩:∃ r,Np.yes (Np.VHist h)=r:=⟨_,rfl⟩;have fi:=jq hr;clear hr;obtain⟨X,hX⟩:∃ X,w.heap.size=X:=⟨_,rfl⟩;obtain⟨W1,ae⟩:∃ W1,((w.alloc (.cells #[.slice A1 n1 c1,.slice A2 n2 c2,.string s,.int .i64 ty,.int .i64 life,.slice A3 n3 c3,.slice A4 n4 c4,.int .i64 drift,.int .i64 stop] 29)).alloc (.cells #[.int .i64 t] 3)).alloc (.cells #[.slice none 0 0,.slice none 0 0,.string ⟨#[]⟩,.int .i64 0,.int .i64 0,.slice none 0 0,.slice none 0 0] 34)=W1:=⟨_,rfl⟩;have aw:Below w.heap.size w W1:=by rw[<-ae]; exact (((vQ _ _).alloc (bQ _) _).alloc (by simp <;> omega) _).alloc (by simp <;> omega) _
 have eG:W1.heap.size=X+3:=by rw[<-ae,<-hX]; simp
 have k0:W1.cell? ⟨X,0,none⟩=some (.slice A1 n1 c1):=by rw[<-ae,<-hX]; simp[go_sem]
 have k1:W1.cell? ⟨X,1,none⟩=some (.slice A2 n2 c2):=by rw[<-ae,<-hX]; simp[go_sem]
 have k2:W1.cell? ⟨X,2,none⟩=some (.string s):=by rw[<-ae,<-hX]; simp[go_sem]
 have k3:W1.cell? ⟨X,3,none⟩=some (.int .i64 ty):=by rw[<-ae,<-hX]; simp[go_sem]
 have k4:W1.cell? ⟨X,4,none⟩=some (.int .i64 life):=by rw[<-ae,<-hX]; simp[go_sem]
 have k5:W1.cell? ⟨X,5,none⟩=some (.slice A3 n3 c3):=by rw[<-ae,<-hX]; simp[go_sem]
 have k6:W1.cell? ⟨X,6,none⟩=some (.slice A4 n4 c4):=by rw[<-ae,<-hX]; simp[go_sem]
 have k7:W1.cell? ⟨X,7,none⟩=some (.int .i64 drift):=by rw[<-ae,<-hX]; simp[go_sem]
 have k8:W1.cell? ⟨X,8,none⟩=some (.int .i64 stop):=by rw[<-ae,<-hX]; simp[go_sem]
 have kt:W1.cell? ⟨X+1,0,none⟩=some (.int .i64 t):=by rw[<-ae,<-hX]; simp[go_sem]
 have aU:W1.heap[X+1+1]?=some (.cells #[.slice none 0 0,.slice none 0 0,.string ⟨#[]⟩,.int .i64 0,.int .i64 0,.slice none 0 0,.slice none 0 0] 34):=by
  rw[<-ae,<-hX]
  have:=heap_alloc_new ((w.alloc (.cells #[.slice A1 n1 c1,.slice A2 n2 c2,.string s,.int .i64 ty,.int .i64 life,.slice A3 n3 c3,.slice A4 n4 c4,.int .i64 drift,.int .i64 stop] 29)).alloc (.cells #[.int .i64 t] 3)) (.cells #[.slice none 0 0,.slice none 0 0,.string ⟨#[]⟩,.int .i64 0,.int .i64 0,.slice none 0 0,.slice none 0 0] 34)
  simpa using this
 have gN:=jq hR;rw[hX] at aw H3 H4 H5 H6 gS gN |-;have ay:=jq aw;clear aw hR;refine (callsIn_wide (n:=0)).1 ?_;refine callsIn_of_wp_marks func12 rfl trivial ?_ rfl;simp only[ntmps12,List.size_toArray,List.length_cons,List.length_nil,Nat.reduceAdd,Nat.reduceSub,Array.replicate_succ,Array.replicate_zero,List.push_toArray,List.append_toArray,List.nil_append,List.cons_append];gi_wp2_with fail;refine⟨trivial,rfl,?_⟩;refine (callsIn_wide.2 (Aa _ h cR.out W1 ((gN.out.keep ay.out).more (by omega)) (cM _ _ _ _ _ (cE _ _ _ _ _ gS.out ay.out) (by omega)))).mono ?_;rw[fi.out];rintro e w2 ⟨rfl,aa⟩;have aN:=aa.size;have m0:=(cl aa (by omega)).trans k0;have m1:=(cl aa (by omega)).trans k1;have m2:=(cl aa (by omega)).trans k2;have m3:=(cl aa (by omega)).trans k3;have m4:=(cl aa (by omega)).trans k4;have m5:=(cl aa (by omega)).trans k5;have m6:=(cl aa (by omega)).trans k6;have m7:=(cl aa (by omega)).trans k7;have m8:=(cl aa (by omega)).trans k8;have mt:=(cl aa (by omega)).trans kt;have aC:=jq ((aa.block (X+1+1) (by omega)).trans aU);have ak:=jq (ay.out.trans (aa.mono (by omega)));clear aa ae hX k0 k1 k2 k3 k4 k5 k6 k7 k8 kt aU
 cases r with
 | false=>
  have HN:Hid (¬ Np.jO h t):=jq (λh=>by have:=Np.bO h.1; rw[fi.out] at this; cases this);have y0:w2.cell? ⟨X+1+1,0,none⟩=some (.slice none 0 0):=by simp[World.cell?,aC.out]
  have z0:w2.frozen? ⟨X+1+1,0,none⟩=false:=by simp[World.frozen?,aC.out]
  have y1:w2.cell? ⟨X+1+1,1,none⟩=some (.slice none 0 0):=by simp[World.cell?,aC.out]
  have z1:w2.frozen? ⟨X+1+1,1,none⟩=false:=by simp[World.frozen?,aC.out]
  have y2:w2.cell? ⟨X+1+1,2,none⟩=some (.string ⟨#[]⟩):=by simp[World.cell?,aC.out]
  have z2:w2.frozen? ⟨X+1+1,2,none⟩=false:=by simp[World.frozen?,aC.out]
  have y3:w2.cell? ⟨X+1+1,3,none⟩=some (.int .i64 0):=by simp[World.cell?,aC.out]
  have z3:w2.frozen? ⟨X+1+1,3,none⟩=false:=by simp[World.frozen?,aC.out]
  have y4:w2.cell? ⟨X+1+1,4,none⟩=some (.int .i64 0):=by simp[World.cell?,aC.out]
  have z4:w2.frozen? ⟨X+1+1,4,none⟩=false:=by simp[World.frozen?,aC.out]
  have y5:w2.cell? ⟨X+1+1,5,none⟩=some (.slice none 0 0):=by simp[World.cell?,aC.out]
  have z5:w2.frozen? ⟨X+1+1,5,none⟩=false:=by simp[World.frozen?,aC.out]
  have y6:w2.cell? ⟨X+1+1,6,none⟩=some (.slice none 0 0):=by simp[World.cell?,aC.out]
  have z6:w2.frozen? ⟨X+1+1,6,none⟩=false:=by simp[World.frozen?,aC.out]
  gi_wp2_with fail;obtain⟨W,hW⟩:∃ W,(((((((w2.setCell ⟨X+1+1,0,none⟩ (.slice none 0 0)).setCell ⟨X+1+1,1,none⟩ (.slice none 0 0)).setCell ⟨X+1+1,2,none⟩ (.string ⟨#[]⟩)).setCell ⟨X+1+1,3,none⟩ (.int .i64 0)).setCell ⟨X+1+1,4,none⟩ (.int .i64 0)).setCell ⟨X+1+1,5,none⟩ (.slice none 0 0)).setCell ⟨X+1+1,6,none⟩ (.slice none 0 0))=W:=⟨_,rfl⟩;have sU:Hid (Below X w W):=jq (by rw[<-hW]; exact (((((((ak.out.setCell (p:=⟨X+1+1,0,none⟩) (by dsimp only; omega) _).setCell (p:=⟨X+1+1,1,none⟩) (by dsimp only; omega) _).setCell (p:=⟨X+1+1,2,none⟩) (by dsimp only; omega) _).setCell (p:=⟨X+1+1,3,none⟩) (by dsimp only; omega) _).setCell (p:=⟨X+1+1,4,none⟩) (by dsimp only; omega) _).setCell (p:=⟨X+1+1,5,none⟩) (by dsimp only; omega) _).setCell (p:=⟨X+1+1,6,none⟩) (by dsimp only; omega) _));have e0:W.cell? ⟨X+1+1,0,none⟩=some (.slice none 0 0):=by rw[<-hW]; simp[go_sem,y0]
  have e1:W.cell? ⟨X+1+1,1,none⟩=some (.slice none 0 0):=by rw[<-hW]; simp[go_sem,y1]
  have e2:W.cell? ⟨X+1+1,2,none⟩=some (.string ⟨#[]⟩):=by rw[<-hW]; simp[go_sem,y2]
  have e3:W.cell? ⟨X+1+1,3,none⟩=some (.int .i64 0):=by rw[<-hW]; simp[go_sem,y3]
  have e4:W.cell? ⟨X+1+1,4,none⟩=some (.int .i64 0):=by rw[<-hW]; simp[go_sem,y4]
  have e5:W.cell? ⟨X+1+1,5,none⟩=some (.slice none 0 0):=by rw[<-hW]; simp[go_sem,y5]
  have e6:W.cell? ⟨X+1+1,6,none⟩=some (.slice none 0 0):=by rw[<-hW]; simp[go_sem,y6]
  rw[hW];refine nJ (v:=.tuple #[.agg #[.slice none 0 0,.slice none 0 0,.string ⟨#[]⟩,.int .i64 0,.int .i64 0,.slice none 0 0,.slice none 0 0],.int .i64 1]) (by simp[results,results12,go_sem,e0,e1,e2,e3,e4,e5,e6]) ⟨[.slice none 0 0,.slice none 0 0,.string ⟨#[]⟩,.int .i64 0,.int .i64 0,.slice none 0 0,.slice none 0 0],tu rfl (by rw[(Np.nG HN.out).2]),by rw[(Np.nG HN.out).1]; exact λ_ _=>xZ _ _,sU.out⟩
 | true=>
  have HV:Hid (Np.VHist h):=jq (Np.eE.1 fi.out);by_cases B7:t<0
  ·have xE:decide (t<0)=true:=uQ B7;have HN:Hid (¬ Np.jO h t):=jq (λh=>by have:=h.2.1; omega);have y0:w2.cell? ⟨X+1+1,0,none⟩=some (.slice none 0 0):=by simp[World.cell?,aC.out]
   have z0:w2.frozen? ⟨X+1+1,0,none⟩=false:=by simp[World.frozen?,aC.out]
   have y1:w2.cell? ⟨X+1+1,1,none⟩=some (.slice none 0 0):=by simp[World.cell?,aC.out]
   have z1:w2.frozen? ⟨X+1+1,1,none⟩=false:=by simp[World.frozen?,aC.out]
   have y2:w2.cell? ⟨X+1+1,2,none⟩=some (.string ⟨#[]⟩):=by simp[World.cell?,aC.out]
   have z2:w2.frozen? ⟨X+1+1,2,none⟩=false:=by simp[World.frozen?,aC.out]
   have y3:w2.cell? ⟨X+1+1,3,none⟩=some (.int .i64 0):=by simp[World.cell?,aC.out]
   have z3:w2.frozen? ⟨X+1+1,3,none⟩=false:=by simp[World.frozen?,aC.out]
   have y4:w2.cell? ⟨X+1+1,4,none⟩=some (.int .i64 0):=by simp[World.cell?,aC.out]
   have z4:w2.frozen? ⟨X+1+1,4,none⟩=false:=by simp[World.frozen?,aC.out]
   have y5:w2.cell? ⟨X+1+1,5,none⟩=some (.slice none 0 0):=by simp[World.cell?,aC.out]
   have z5:w2.frozen? ⟨X+1+1,5,none⟩=false:=by simp[World.frozen?,aC.out]
   have y6:w2.cell? ⟨X+1+1,6,none⟩=some (.slice none 0 0):=by simp[World.cell?,aC.out]
   have z6:w2.frozen? ⟨X+1+1,6,none⟩=false:=by simp[World.frozen?,aC.out]
   clear B7;gi_wp2_with fail;obtain⟨W,hW⟩:∃ W,(((((((w2.setCell ⟨X+1+1,0,none⟩ (.slice none 0 0)).setCell ⟨X+1+1,1,none⟩ (.slice none 0 0)).setCell ⟨X+1+1,2,none⟩ (.string ⟨#[]⟩)).setCell ⟨X+1+1,3,none⟩ (.int .i64 0)).setCell ⟨X+1+1,4,none⟩ (.int .i64 0)).setCell ⟨X+1+1,5,none⟩ (.slice none 0 0)).setCell ⟨X+1+1,6,none⟩ (.slice none 0 0))=W:=⟨_,rfl⟩;have sU:Hid (Below X w W):=jq (by rw[<-hW]; exact (((((((ak.out.setCell (p:=⟨X+1+1,0,none⟩) (by dsimp only; omega) _).setCell (p:=⟨X+1+1,1,none⟩) (by dsimp only; omega) _).setCell (p:=⟨X+1+1,2,none⟩) (by dsimp only; omega) _).setCell (p:=⟨X+1+1,3,none⟩) (by dsimp only; omega) _).setCell (p:=⟨X+1+1,4,none⟩) (by dsimp only; omega) _).setCell (p:=⟨X+1+1,5,none⟩) (by dsimp only; omega) _).setCell (p:=⟨X+1+1,6,none⟩) (by dsimp only; omega) _));have e0:W.cell? ⟨X+1+1,0,none⟩=some (.slice none 0 0):=by rw[<-hW]; simp[go_sem,y0]
   have e1:W.cell? ⟨X+1+1,1,none⟩=some (.slice none 0 0):=by rw[<-hW]; simp[go_sem,y1]
   have e2:W.cell? ⟨X+1+1,2,none⟩=some (.string ⟨#[]⟩):=by rw[<-hW]; simp[go_sem,y2]
   have e3:W.cell? ⟨X+1+1,3,none⟩=some (.int .i64 0):=by rw[<-hW]; simp[go_sem,y3]
   have e4:W.cell? ⟨X+1+1,4,none⟩=some (.int .i64 0):=by rw[<-hW]; simp[go_sem,y4]
   have e5:W.cell? ⟨X+1+1,5,none⟩=some (.slice none 0 0):=by rw[<-hW]; simp[go_sem,y5]
   have e6:W.cell? ⟨X+1+1,6,none⟩=some (.slice none 0 0):=by rw[<-hW]; simp[go_sem,y6]
   rw[hW];refine nJ (v:=.tuple #[.agg #[.slice none 0 0,.slice none 0 0,.string ⟨#[]⟩,.int .i64 0,.int .i64 0,.slice none 0 0,.slice none 0 0],.int .i64 1]) (by simp[results,results12,go_sem,e0,e1,e2,e3,e4,e5,e6]) ⟨[.slice none 0 0,.slice none 0 0,.string ⟨#[]⟩,.int .i64 0,.int .i64 0,.slice none 0 0,.slice none 0 0],tu rfl (by rw[(Np.nG HN.out).2]),by rw[(Np.nG HN.out).1]; exact λ_ _=>xZ _ _,sU.out⟩
  have xE:decide (t<0)=false:=tQ B7;by_cases FR:stop<=t
  ·have yL:decide (stop<=t)=true:=uQ FR;have HN:Hid (¬ Np.jO h t):=jq (λh=>by have:=h.2.2; rw[ck.out] at this; omega);have y0:w2.cell? ⟨X+1+1,0,none⟩=some (.slice none 0 0):=by simp[World.cell?,aC.out]
   have z0:w2.frozen? ⟨X+1+1,0,none⟩=false:=by simp[World.frozen?,aC.out]
   have y1:w2.cell? ⟨X+1+1,1,none⟩=some (.slice none 0 0):=by simp[World.cell?,aC.out]
   have z1:w2.frozen? ⟨X+1+1,1,none⟩=false:=by simp[World.frozen?,aC.out]
   have y2:w2.cell? ⟨X+1+1,2,none⟩=some (.string ⟨#[]⟩):=by simp[World.cell?,aC.out]
   have z2:w2.frozen? ⟨X+1+1,2,none⟩=false:=by simp[World.frozen?,aC.out]
   have y3:w2.cell? ⟨X+1+1,3,none⟩=some (.int .i64 0):=by simp[World.cell?,aC.out]
   have z3:w2.frozen? ⟨X+1+1,3,none⟩=false:=by simp[World.frozen?,aC.out]
   have y4:w2.cell? ⟨X+1+1,4,none⟩=some (.int .i64 0):=by simp[World.cell?,aC.out]
   have z4:w2.frozen? ⟨X+1+1,4,none⟩=false:=by simp[World.frozen?,aC.out]
   have y5:w2.cell? ⟨X+1+1,5,none⟩=some (.slice none 0 0):=by simp[World.cell?,aC.out]
   have z5:w2.frozen? ⟨X+1+1,5,none⟩=false:=by simp[World.frozen?,aC.out]
   have y6:w2.cell? ⟨X+1+1,6,none⟩=some (.slice none 0 0):=by simp[World.cell?,aC.out]
   have z6:w2.frozen? ⟨X+1+1,6,none⟩=false:=by simp[World.frozen?,aC.out]
   clear B7 FR;gi_wp2_with fail;obtain⟨W,hW⟩:∃ W,(((((((w2.setCell ⟨X+1+1,0,none⟩ (.slice none 0 0)).setCell ⟨X+1+1,1,none⟩ (.slice none 0 0)).setCell ⟨X+1+1,2,none⟩ (.string ⟨#[]⟩)).setCell ⟨X+1+1,3,none⟩ (.int .i64 0)).setCell ⟨X+1+1,4,none⟩ (.int .i64 0)).setCell ⟨X+1+1,5,none⟩ (.slice none 0 0)).setCell ⟨X+1+1,6,none⟩ (.slice none 0 0))=W:=⟨_,rfl⟩;have sU:Hid (Below X w W):=jq (by rw[<-hW]; exact (((((((ak.out.setCell (p:=⟨X+1+1,0,none⟩) (by dsimp only; omega) _).setCell (p:=⟨X+1+1,1,none⟩) (by dsimp only; omega) _).setCell (p:=⟨X+1+1,2,none⟩) (by dsimp only; omega) _).setCell (p:=⟨X+1+1,3,none⟩) (by dsimp only; omega) _).setCell (p:=⟨X+1+1,4,none⟩) (by dsimp only; omega) _).setCell (p:=⟨X+1+1,5,none⟩) (by dsimp only; omega) _).setCell (p:=⟨X+1+1,6,none⟩) (by dsimp only; omega) _));have e0:W.cell? ⟨X+1+1,0,none⟩=some (.slice none 0 0):=by rw[<-hW]; simp[go_sem,y0]
   have e1:W.cell? ⟨X+1+1,1,none⟩=some (.slice none 0 0):=by rw[<-hW]; simp[go_sem,y1]
   have e2:W.cell? ⟨X+1+1,2,none⟩=some (.string ⟨#[]⟩):=by rw[<-hW]; simp[go_sem,y2]
   have e3:W.cell? ⟨X+1+1,3,none⟩=some (.int .i64 0):=by rw[<-hW]; simp[go_sem,y3]
   have e4:W.cell? ⟨X+1+1,4,none⟩=some (.int .i64 0):=by rw[<-hW]; simp[go_sem,y4]
   have e5:W.cell? ⟨X+1+1,5,none⟩=some (.slice none 0 0):=by rw[<-hW]; simp[go_sem,y5]
   have e6:W.cell? ⟨X+1+1,6,none⟩=some (.slice none 0 0):=by rw[<-hW]; simp[go_sem,y6]
   rw[hW];refine nJ (v:=.tuple #[.agg #[.slice none 0 0,.slice none 0 0,.string ⟨#[]⟩,.int .i64 0,.int .i64 0,.slice none 0 0,.slice none 0 0],.int .i64 1]) (by simp[results,results12,go_sem,e0,e1,e2,e3,e4,e5,e6]) ⟨[.slice none 0 0,.slice none 0 0,.string ⟨#[]⟩,.int .i64 0,.int .i64 0,.slice none 0 0,.slice none 0 0],tu rfl (by rw[(Np.nG HN.out).2]),by rw[(Np.nG HN.out).1]; exact λ_ _=>xZ _ _,sU.out⟩
  have yL:decide (stop<=t)=false:=tQ FR;have HK:Hid (Np.jO h t):=jq ⟨HV.out,by omega,by rw[ck.out]; omega⟩;clear B7 FR;gi_wp2_with fail;obtain⟨Zt,QE⟩:∃ Zt,w2.heap.size=Zt:=⟨_,rfl⟩;have Tc:Hid (Below X w w2):=jq ak.out;have HZ0:Hid (Zt<=w2.heap.size):=jq (Nat.le_of_eq QE.symm);have HG0:Hid (Below Zt w2 w2):=jq (vQ _ _);have hX3:X+3<=Zt:=by omega
  refine yh λa0 bi=>?_;have jg:=jq bi;have oq:=jq (show a0.eval (.tmp 2) = .pointer (some ⟨X,0,none⟩) by rw[bi]; rfl);have HM:=jq (show a0.tmps.size=74 by rw[bi]; rfl);clear bi;refine wpIn_mono (Q:=Pe a0 X A1 n1 c1 s ty life A3 n3 c3 A4 n4 c4 h Zt w2) ?_ ?_
  ·refine wpIn_wide.2 (wp_region_any (by kernel_rfl) ?_);refine Xe (Inv:=At3Inv h Zt n1 n4 w2) (val:=kg X A1 n1 c1 s ty life A3 n3 c3 A4 n4 c4) (XY (ord:=[0,1,3,4,5,6,8,2,7,9]) (T:=[2,7,9]) (p0:=10) (m:=74) (dep:=mK) (dst:=tL) (by kernel_rfl)) HM.out
    (λe p hp=>by simp only[List.mem_cons,Qh,or_false] at hp; rcases hp with rfl | rfl | rfl <;> rfl) (Pu X A1 n1 c1 s ty life A3 n3 c3 A4 n4 c4) ?_ ?_ ?_ (e0:=λ_=>undef) (show At3Inv h Zt n1 n4 w2 [] (λ_=>undef) w2.drew from ⟨HG0.out.drew,HZ0.out,(λh=>by cases h),(λh=>by cases h),(λh=>by cases h)⟩)
   ·intro A e u hI i hi Ln hd o ho a' hb hx;have hZ:=hI.lt;replace m0:=(cl hI.below (by omega)).trans m0;replace m1:=(cl hI.below (by omega)).trans m1;replace m2:=(cl hI.below (by omega)).trans m2;replace m3:=(cl hI.below (by omega)).trans m3;replace m4:=(cl hI.below (by omega)).trans m4;replace m5:=(cl hI.below (by omega)).trans m5;replace m6:=(cl hI.below (by omega)).trans m6;replace m7:=(cl hI.below (by omega)).trans m7;replace m8:=(cl hI.below (by omega)).trans m8;have k2':=(aT hb (j:=2) (by decide) (by decide)).trans oq.out;simp[Act.eval] at k2';by_cases h8:i=8
    ·subst h8;obtain⟨A5,c5,h5,_⟩:=hI.hosts (hd 2 (by simp[mK]));obtain⟨A6,c6,h6,_⟩:=hI.hints (hd 7 (by simp[mK]))
     cases ho
     simp[Act.eval,Region.binds,kg,tL] at hx;refine .inl ⟨by simp[Region.wanted],λw' hw'=>?_⟩;subst hw';simp[Oper.quietAt,Oper.quietUpon,execOp,go_sem,kg,hx,h5,h6]
    simp only[List.mem_cons,Qh,or_false] at hi;rcases hi with rfl | rfl | rfl | rfl | rfl | rfl | rfl | rfl | rfl | rfl
    all_goals first
     | (exfalso; simp at Ln; done)
     | exact absurd rfl h8
     | (cases ho
        try simp[Act.eval,Region.binds,kg,tL] at hx
        refine .inl ⟨by simp[Region.wanted],λw' hw'=>?_⟩;subst hw';simp[Oper.quietAt,Oper.quietUpon,execOp,go_sem,kg,k2',m0,m2,m3,m4,m5,m6,hx])
   ·intro A e u hI p hp r9 o ho a' hb hx K hK;simp only[List.mem_cons,Qh,or_false] at hp;rcases hp with rfl | rfl | rfl
    ·cases ho
     simp[Act.eval,Region.binds,kg,tL,mK] at hx;simp only[wpOp];simp[Region.wanted];refine .inl ?_;simp[Oper.wp,go_sem,hx];refine (Uh _ h.hosts (by have:=ix.out; omega) u ((H3.out.keep fF (Tc.out.trans (hI.below.mono (by omega)))).more jZ (by have:=hI.lt; omega))).mono ?_;rintro e' u' ⟨vv,rfl,ho,hb'⟩;obtain⟨A5,c5,rfl⟩:=ho.formL;rw[ix.out] at ho |-;dsimp only;exact hK _ _ (hI.host r9 hb' ho)
    ·cases ho
     simp[Act.eval,Region.binds,kg,tL,mK] at hx;simp only[wpOp];simp[Region.wanted];refine .inl ?_;simp[Oper.wp,go_sem,hx];refine (U1 _ h.hints (by have:=sD.out; omega) u ((H6.out.keep iU (Tc.out.trans (hI.below.mono (by omega)))).more nv (by have:=hI.lt; omega))).mono ?_;rintro e' u' ⟨vv,rfl,ho,hb'⟩;obtain⟨A6,c6,rfl⟩:=ho.formL;rw[sD.out] at ho |-;dsimp only;exact hK _ _ (hI.hint r9 hb' ho)
    ·cases ho
     simp only[wpOp];simp[Region.wanted];refine .inl ?_;simp[Oper.wp,execOp,go_sem];exact hK _ _ hI.made
   ·intro A e u hI hA o ho a' hv hb ha K hK;obtain⟨A5,c5,h5,F2⟩:=hI.hosts (hA 2 (by simp));obtain⟨A6,c6,h6,F7⟩:=hI.hints (hA 7 (by simp));obtain⟨b,h9,aq,aa,F9,N2,N7⟩:=hI.box (hA 9 (by simp));have N2:=N2 (hA 2 (by simp));have N7:=N7 (hA 7 (by simp));rw[h5] at F2 N2;rw[h6] at F7 N7;have av8:=hv 8 (by simp);have av9:=hv 9 (by simp);simp[Act.eval,kg,tL] at av8 av9
    cases ho
    simp only[wpOp];simp[Region.wanted];refine .inl ?_;have y0:u.cell? ⟨b,0,none⟩=some (.slice none 0 0):=by simp[World.cell?,F9]
    have z0:u.frozen? ⟨b,0,none⟩=false:=by simp[World.frozen?,F9]
    have y1:u.cell? ⟨b,1,none⟩=some (.slice none 0 0):=by simp[World.cell?,F9]
    have z1:u.frozen? ⟨b,1,none⟩=false:=by simp[World.frozen?,F9]
    have y2:u.cell? ⟨b,2,none⟩=some (.string ⟨#[]⟩):=by simp[World.cell?,F9]
    have z2:u.frozen? ⟨b,2,none⟩=false:=by simp[World.frozen?,F9]
    have y3:u.cell? ⟨b,3,none⟩=some (.int .i64 0):=by simp[World.cell?,F9]
    have z3:u.frozen? ⟨b,3,none⟩=false:=by simp[World.frozen?,F9]
    have y4:u.cell? ⟨b,4,none⟩=some (.int .i64 0):=by simp[World.cell?,F9]
    have z4:u.frozen? ⟨b,4,none⟩=false:=by simp[World.frozen?,F9]
    have y5:u.cell? ⟨b,5,none⟩=some (.slice none 0 0):=by simp[World.cell?,F9]
    have z5:u.frozen? ⟨b,5,none⟩=false:=by simp[World.frozen?,F9]
    have y6:u.cell? ⟨b,6,none⟩=some (.slice none 0 0):=by simp[World.cell?,F9]
    have z6:u.frozen? ⟨b,6,none⟩=false:=by simp[World.frozen?,F9]
    rw[h5,h6] at av8;rw[h9] at av9;simp[Oper.wp,execOp,go_sem,av8,av9,y0,z0,y1,z1,y2,z2,y3,z3,y4,z4,y5,z5,y6,z6];refine hK _ _ ?_;obtain⟨W',hW'⟩:∃ W',W'=(((((((u.setCell ⟨b,0,none⟩ (.slice A5 n1 c5)).setCell ⟨b,1,none⟩ (.slice none 0 0)).setCell ⟨b,2,none⟩ (.string s)).setCell ⟨b,3,none⟩ (.int .i64 ty)).setCell ⟨b,4,none⟩ (.int .i64 life)).setCell ⟨b,5,none⟩ (.slice A3 n3 c3)).setCell ⟨b,6,none⟩ (.slice A6 n4 c6)):=⟨_,rfl⟩;rw[<-hW'];have qV:∀ k,k≠b->W'.heap[k]?=u.heap[k]?:=λk hk=>by rw[hW']; exact ((wQ _ _ _ k hk).trans ((wQ _ _ _ k hk).trans ((wQ _ _ _ k hk).trans ((wQ _ _ _ k hk).trans ((wQ _ _ _ k hk).trans ((wQ _ _ _ k hk).trans (wQ _ _ _ k hk)))))))
    have Er:W'.heap.size=u.heap.size:=by rw[hW']; simp
    have uG:W'.heap[b]?=some (.cells #[.slice A5 n1 c5,.slice none 0 0,.string s,.int .i64 ty,.int .i64 life,.slice A3 n3 c3,.slice A6 n4 c6] 34):=by rw[hW']; simp[World.setCell,Array.getElem?_modify,F9]
    have he:kg X A1 n1 c1 s ty life A3 n3 c3 A4 n4 c4 e=kg X A1 n1 c1 s ty life A3 n3 c3 A4 n4 c4 (Ea (.slice A5 n1 c5) (.slice A6 n4 c6) b):=funext λi=>Pu X A1 n1 c1 s ty life A3 n3 c3 A4 n4 c4 i _ _ (λj hj=>Ym h5 h6 h9 hj);rw[he] at ha;unfold Pe;refine⟨rfl,A5,c5,A6,c6,b,ha,?_,?_,uG,aq,by rw[Er]; exact aa,N2,N7,?_⟩
    ·exact F2.heapR (λg hg=>qV g (λe=>N2 (e ▸ hg))) (λ_ _ h=>h)
    ·exact F7.heapR (λg hg=>qV g (λe=>N7 (e ▸ hg))) (λ_ _ h=>h)
    ·rw[hW'];exact (((((((hI.below.setCell (p:=⟨b,0,none⟩) aq _).setCell (p:=⟨b,1,none⟩) aq _).setCell (p:=⟨b,2,none⟩) aq _).setCell (p:=⟨b,3,none⟩) aq _).setCell (p:=⟨b,4,none⟩) aq _).setCell (p:=⟨b,5,none⟩) aq _).setCell (p:=⟨b,6,none⟩) aq _)
  ·rintro e a' w3 ⟨rfl,A5,c5,A6,c6,b,rfl,hA,hB,uG,aq,aa,aJ,aK,jS⟩;have FA:=jq hA;have FB:=jq hB;have HBZ:=jq jS;have NA:=jq aJ;have NB:=jq aK;have dP:=jS.size;rw[QE] at dP;have m30:=(cl jS (by omega)).trans m0;have m31:=(cl jS (by omega)).trans m1;have m32:=(cl jS (by omega)).trans m2;have m33:=(cl jS (by omega)).trans m3;have m34:=(cl jS (by omega)).trans m4;have m35:=(cl jS (by omega)).trans m5;have m36:=(cl jS (by omega)).trans m6;have m37:=(cl jS (by omega)).trans m7;have m38:=(cl jS (by omega)).trans m8;have m3t:=(cl jS (by omega)).trans mt;have eJ:=jq ((jS.block (X+1+1) (by omega)).trans aC.out);have iI:=jq uG;have av:=jq (ak.out.trans (jS.mono (by omega)));have ajJ:w3.cell? ⟨b,5,none⟩=some (.slice A3 n3 c3):=by simp[World.cell?,uG]
   have aqY:w3.frozen? ⟨b,5,none⟩=false:=by simp[World.frozen?,uG]
   clear hA hB jS aJ aK m0 m1 m2 m3 m4 m5 m6 m7 m8 mt uG;rw[jg.out];simp only[jJ,Act.put,kg,tL,Ea,List.map_cons,List.map_nil];simp;gi_wp2_with fail;refine⟨trivial,rfl,?_⟩;refine (callsIn_wide.2 (LV _ h.anchor.data (by have:=uV.out; omega) w3 ((H5.out.keep cL av.out).more dp (by omega)))).mono ?_;rintro e w4 ⟨v4,rfl,kw,am⟩;have ga:=am.size;have m40:=(cl am (by omega)).trans m30;have m41:=(cl am (by omega)).trans m31;have m42:=(cl am (by omega)).trans m32;have m43:=(cl am (by omega)).trans m33;have m44:=(cl am (by omega)).trans m34;have m45:=(cl am (by omega)).trans m35;have m46:=(cl am (by omega)).trans m36;have m47:=(cl am (by omega)).trans m37;have m48:=(cl am (by omega)).trans m38;have m4t:=(cl am (by omega)).trans m3t;have zF:=jq ((am.block (X+1+1) (by omega)).trans eJ.out);have Fy:=(am.block b aa).trans iI.out;have FA4:=jq (FA.out.keep fF am dP);have FB4:=jq (FB.out.keep iU am dP);have bD:=jq (av.out.trans (am.mono (by omega)));obtain⟨A7,c7,rfl⟩:=kw.formL;rw[uV.out] at kw |-;have FD4:Hid (bF cG 3 96 w3.heap.size w3.heap.size w4 (.slice A7 n3 c7) h.anchor.data):=jq kw;have ND:Hid ((Value.slice A7 n3 c7).ownBlock≠some b):=jq (λe=>by have:=(kw.ltR _ e).1; omega);have aIZ:w4.cell? ⟨b,5,none⟩=some (.slice A3 n3 c3):=by simp[World.cell?,Fy]
   have aOX:w4.frozen? ⟨b,5,none⟩=false:=by simp[World.frozen?,Fy]
   obtain⟨w5,aX⟩:∃ w5,w4.setCell ⟨b,5,none⟩ (.slice A7 n3 c7)=w5:=⟨_,rfl⟩;have kF:w5.heap.size=w4.heap.size:=by rw[<-aX]; simp
   have Fo:∀ k,k≠b->w5.heap[k]?=w4.heap[k]?:=λk hk=>by rw[<-aX]; exact wQ _ _ _ _ hk
   have Q2:w5.heap[b]?=some (.cells #[.slice A5 n1 c5,.slice none 0 0,.string s,.int .i64 ty,.int .i64 life,.slice A7 n3 c7,.slice A6 n4 c6] 34):=by rw[<-aX]; simp[World.setCell,Array.getElem?_modify,Fy]
   have aA:Below Zt w4 w5:=by rw[<-aX]; exact (vQ _ _).setCell (by dsimp only; omega) _
   have m50:=(cl aA (by omega)).trans m40;have m51:=(cl aA (by omega)).trans m41;have m52:=(cl aA (by omega)).trans m42;have m53:=(cl aA (by omega)).trans m43;have m54:=(cl aA (by omega)).trans m44;have m55:=(cl aA (by omega)).trans m45;have m56:=(cl aA (by omega)).trans m46;have m57:=(cl aA (by omega)).trans m47;have m58:=(cl aA (by omega)).trans m48;have m5t:=(cl aA (by omega)).trans m4t;have gZ:=jq ((aA.block (X+1+1) (by omega)).trans zF.out);have FA5:=jq (FA4.out.heapR (w':=w5) (λg hg=>Fo g (λe=>NA.out (e ▸ hg))) (λ_ _ h=>h));have FB5:=jq (FB4.out.heapR (w':=w5) (λg hg=>Fo g (λe=>NB.out (e ▸ hg))) (λ_ _ h=>h));have FD5:=jq (FD4.out.heapR (w':=w5) (λg hg=>Fo g (λe=>ND.out (e ▸ hg))) (λ_ _ h=>h));have ca:=jq (bD.out.trans (aA.mono (by omega)));have apJ:=jq Q2;have asX:b<w5.heap.size:=by omega
   clear kw am Fy aA Fo Q2 m30 m31 m32 m33 m34 m35 m36 m37 m38 m3t m40 m41 m42 m43 m44 m45 m46 m47 m48 m4t ajJ aqY;gi_wp2_with fail;clear aX aIZ aOX;refine⟨trivial,rfl,?_⟩;refine (callsIn_wide.2 (GN _ _ _ _ _ _ _ _ _ 46 #[.pointer (some ⟨X+1,0,none⟩)] w5)).mono ?_;rintro e w6 ⟨rfl,cr⟩;obtain⟨Xh,J9⟩:∃ Xh,w5.heap.size=Xh:=⟨_,rfl⟩;have gP:w6.heap.size=Xh+2:=by rw[cr]; simp; omega
   have aW:Below w5.heap.size w5 w6:=by rw[cr]; exact ((vQ _ _).alloc (bQ _) _).alloc (by simp) _
   have kX:w6.cell? ⟨Xh,1,none⟩=some (.slice A2 n2 c2):=by rw[cr,<-J9]; simp[go_sem]
   have kO:w6.cell? ⟨Xh+1,0,none⟩=some (.func (.func 46) #[] #[.pointer (some ⟨X+1,0,none⟩)]):=by rw[cr,<-J9]; simp[go_sem]
   rw[J9];obtain⟨L,iH,pL,pg⟩:=Ih (H4.out.keep fk (ca.out.trans (aW.mono (by omega))));have HKT:=jq ((cl aW (by omega)).trans m5t);have CG:=jq (Gy L (λx=>decide (x.1.frm<=t)&&decide (t<x.1.til)) 46 #[.pointer (some ⟨X+1,0,none⟩)] Xh (Xh+1) n2 c2 (λk=>k<w6.heap.size/\k≠b) A2 w6 ⟨by omega,by omega⟩ ⟨by omega,by omega⟩ kX kO pL (by have:=cR.out.1; have:=iA.out; omega)
    (λi x hx=>by
      obtain⟨_,b',o,h1,h2,h3⟩:=pg i x hx;exact⟨b',o,h1,⟨by omega,by omega⟩,h3⟩) WS
    (λx hx W hW=>by
      have h1:=(hW.cell (p:=⟨X+1,0,none⟩) ⟨by dsimp only; omega,by dsimp only; omega⟩).trans HKT.out
      have:=hW.1
      exact ZV x.1.host x.1.frm x.1.til x.1.str _ x.1.A x.1.n x.1.c rfl (X+1) t W (by omega) h1))
   have auX:=jq ((aW.block b asX).trans apJ.out);have IF:=jq ((aW.block (X+1+1) (by omega)).trans gZ.out);have FA6:=jq (FA5.out.keep fF aW (by omega));have FB6:=jq (FB5.out.keep iU aW (by omega));have FD6:=jq (FD5.out.keep cL aW (by omega));have cY:=jq (ca.out.trans (aW.mono (by omega)));have l9:=jq iH;have oS:Hid (∀ x∈L,CVOf w6 X x.1 x.2):=jq (λx hx=>by obtain⟨i,hi⟩:=List.mem_iff_getElem?.1 hx; exact (pg i x hi).1);clear aW cr kX kO iH pg m5t m50 m51 m52 m53 m54 m55 m56 m57 m58;gi_wp2_with fail;have RV:=jq gP;refine Gk (Dr:=λk=>k<w6.heap.size/\k≠b) (w0:=w6) (first:=#[]) (captured:=#[.pointer (some ⟨Xh,0,none⟩),.pointer (some ⟨Xh+1,0,none⟩)]) (gf:=91) rfl Gx (mk:=λy=>#[y,.pointer (some ⟨Xh,0,none⟩),.pointer (some ⟨Xh+1,0,none⟩)]) (λ_=>rfl)
    CG.out (gt.refl λk e=>e.1) (λ_=>rfl) (AtI w6 b (λzv=>#[.slice A5 n1 c5,zv,.string s,.int .i64 ty,.int .i64 life,.slice A7 n3 c7,.slice A6 n4 c6])) (λ_ _ _ _=>False)
    (NE _ _ _ (by omega)) (λc s S W W' h _=>h)
    (λk=>k=b) (λk h1 h2=>h2.2 h1) (by intro k h; omega)
    ⟨.slice none 0 0,rfl,λg hg=>by simp[Value.ownBlock] at hg,λk e=>.inl e,auX.out,bJ.nil _,RdStep.refl _ _⟩ ?round ?done ?stop
   case stop=>
    rintro D c pre S W hD g9 bM jf h hK;exact h.elim
   case done=>
    rintro D S W hD g9 bM ⟨zv,ED,zh,pO,mq,hown,bA⟩ hK;obtain⟨pl,lu⟩:∃ pl,((L.filter λx=>decide (x.1.frm<=t)&&decide (t<x.1.til)).map λx:CV×Np.Copy=>Np.eV x.2)=pl:=⟨_,rfl⟩;have SB:Hid ((Np.bS h.copies t).map Np.eV=pl):=jq (by
     rw[<-lu,<-l9.out];exact Wb oS.out t)
    rw[lu] at hown;have bnX:pl.length<=500:=by
     rw[<-SB.out,List.length_map]
     have:=Gu h.copies t
     have:=cR.out.1
     omega
    clear lu;obtain⟨vA,vc,rfl⟩:=hown.form;obtain⟨m,hm⟩:∃ m,pl.length=m:=⟨_,rfl⟩;rw[hm] at mq hown zh;have HM:=jq hm;have gY:=jq hown;have HHW:=jq bA;have Ft:=jq hK;have Q3:D<W.heap.size:=(eQ.1 hK).1;have zg:=bA.size;have eF:X<=b:=by omega
    have sO:Below X w6 W:=bA.below (by omega) (λk e=>by omega);have arK:=jq (cY.out.trans (sO.mono (by omega)));have SW:=(bA.keep (X+1+1) (by omega) (by omega)).trans IF.out;have nc:=jq SW;have Br:Hid (bF gW 3 64 Zt Zt W (.slice A5 n1 c5) h.hosts):=jq (FA6.out.heapR (λg hg=>bA.keep g (FA6.out.ltR g hg).2 (λe=>NA.out (e ▸ hg))) (λ_ _ h=>h));have HFB:Hid (bF ip 1 3 Zt Zt W (.slice A6 n4 c6) h.hints):=jq (FB6.out.heapR (λg hg=>bA.keep g (FB6.out.ltR g hg).2 (λe=>NB.out (e ▸ hg))) (λ_ _ h=>h));have sZ:Hid (bF cG 3 96 w3.heap.size w3.heap.size W (.slice A7 n3 c7) h.anchor.data):=jq (FD6.out.heapR (λg hg=>bA.keep g (FD6.out.ltR g hg).2 (λe=>ND.out (e ▸ hg))) (λ_ _ h=>h));have g0:W.cell? ⟨b,0,none⟩=some (.slice A5 n1 c5):=by simp[World.cell?,mq]
    have g1:W.cell? ⟨b,1,none⟩=some (.slice vA m vc):=by simp[World.cell?,mq]
    have g2:W.cell? ⟨b,2,none⟩=some (.string s):=by simp[World.cell?,mq]
    have g3:W.cell? ⟨b,3,none⟩=some (.int .i64 ty):=by simp[World.cell?,mq]
    have g4:W.cell? ⟨b,4,none⟩=some (.int .i64 life):=by simp[World.cell?,mq]
    have g5:W.cell? ⟨b,5,none⟩=some (.slice A7 n3 c7):=by simp[World.cell?,mq]
    have g6:W.cell? ⟨b,6,none⟩=some (.slice A6 n4 c6):=by simp[World.cell?,mq]
    have y0:W.cell? ⟨X+1+1,0,none⟩=some (.slice none 0 0):=by simp[World.cell?,nc.out]
    have z0:W.frozen? ⟨X+1+1,0,none⟩=false:=by simp[World.frozen?,nc.out]
    have y1:W.cell? ⟨X+1+1,1,none⟩=some (.slice none 0 0):=by simp[World.cell?,nc.out]
    have z1:W.frozen? ⟨X+1+1,1,none⟩=false:=by simp[World.frozen?,nc.out]
    have y2:W.cell? ⟨X+1+1,2,none⟩=some (.string ⟨#[]⟩):=by simp[World.cell?,nc.out]
    have z2:W.frozen? ⟨X+1+1,2,none⟩=false:=by simp[World.frozen?,nc.out]
    have y3:W.cell? ⟨X+1+1,3,none⟩=some (.int .i64 0):=by simp[World.cell?,nc.out]
    have z3:W.frozen? ⟨X+1+1,3,none⟩=false:=by simp[World.frozen?,nc.out]
    have y4:W.cell? ⟨X+1+1,4,none⟩=some (.int .i64 0):=by simp[World.cell?,nc.out]
    have z4:W.frozen? ⟨X+1+1,4,none⟩=false:=by simp[World.frozen?,nc.out]
    have y5:W.cell? ⟨X+1+1,5,none⟩=some (.slice none 0 0):=by simp[World.cell?,nc.out]
    have z5:W.frozen? ⟨X+1+1,5,none⟩=false:=by simp[World.frozen?,nc.out]
    have y6:W.cell? ⟨X+1+1,6,none⟩=some (.slice none 0 0):=by simp[World.cell?,nc.out]
    have z6:W.frozen? ⟨X+1+1,6,none⟩=false:=by simp[World.frozen?,nc.out]
    have sP:=jq g9;have F5:=jq zh;have Tf:=jq pO;have NAD:Hid (∀ g,(Value.slice A5 n1 c5).ownBlock=some g->Zt<=g/\g<w6.heap.size):=jq (λg hg=>FA6.out.ltR g hg);have NBD:Hid (∀ g,(Value.slice A6 n4 c6).ownBlock=some g->Zt<=g/\g<w6.heap.size):=jq (λg hg=>FB6.out.ltR g hg);have NDD:Hid (∀ g,(Value.slice A7 n3 c7).ownBlock=some g->w3.heap.size<=g/\g<w6.heap.size):=jq (λg hg=>FD6.out.ltR g hg);clear hm hown bA hK sO SW mq ED zh pO bM g9;gi_wp2_with fail;obtain⟨W',hW'⟩:∃ W',(((((((W.setCell ⟨X+1+1,0,none⟩ (.slice A5 n1 c5)).setCell ⟨X+1+1,1,none⟩ (.slice vA m vc)).setCell ⟨X+1+1,2,none⟩ (.string s)).setCell ⟨X+1+1,3,none⟩ (.int .i64 ty)).setCell ⟨X+1+1,4,none⟩ (.int .i64 life)).setCell ⟨X+1+1,5,none⟩ (.slice A7 n3 c7)).setCell ⟨X+1+1,6,none⟩ (.slice A6 n4 c6))=W':=⟨_,rfl⟩;have ph:W'.heap.size=W.heap.size:=by rw[<-hW']; simp
    have iv:∀ k,k≠X+1+1->W'.heap[k]?=W.heap[k]?:=λk hk=>by rw[<-hW']; exact ((wQ _ _ _ k hk).trans ((wQ _ _ _ k hk).trans ((wQ _ _ _ k hk).trans ((wQ _ _ _ k hk).trans ((wQ _ _ _ k hk).trans ((wQ _ _ _ k hk).trans (wQ _ _ _ k hk)))))))
    have Cq:Below X w W':=by rw[<-hW']; exact (((((((arK.out.setCell (p:=⟨X+1+1,0,none⟩) (by dsimp only; omega) _).setCell (p:=⟨X+1+1,1,none⟩) (by dsimp only; omega) _).setCell (p:=⟨X+1+1,2,none⟩) (by dsimp only; omega) _).setCell (p:=⟨X+1+1,3,none⟩) (by dsimp only; omega) _).setCell (p:=⟨X+1+1,4,none⟩) (by dsimp only; omega) _).setCell (p:=⟨X+1+1,5,none⟩) (by dsimp only; omega) _).setCell (p:=⟨X+1+1,6,none⟩) (by dsimp only; omega) _)
    have iS:W'.os=W.os/\W'.tape=W.tape/\W'.output=W.output:=by rw[<-hW']; simp[World.setCell]
    have pb:X+1+1≠D:=by omega
    have e0:W'.cell? ⟨X+1+1,0,none⟩=some (.slice A5 n1 c5):=by rw[<-hW']; simp[go_sem,y0]
    have e1:W'.cell? ⟨X+1+1,1,none⟩=some (.slice vA m vc):=by rw[<-hW']; simp[go_sem,y1]
    have e2:W'.cell? ⟨X+1+1,2,none⟩=some (.string s):=by rw[<-hW']; simp[go_sem,y2]
    have e3:W'.cell? ⟨X+1+1,3,none⟩=some (.int .i64 ty):=by rw[<-hW']; simp[go_sem,y3]
    have e4:W'.cell? ⟨X+1+1,4,none⟩=some (.int .i64 life):=by rw[<-hW']; simp[go_sem,y4]
    have e5:W'.cell? ⟨X+1+1,5,none⟩=some (.slice A7 n3 c7):=by rw[<-hW']; simp[go_sem,y5]
    have e6:W'.cell? ⟨X+1+1,6,none⟩=some (.slice A6 n4 c6):=by rw[<-hW']; simp[go_sem,y6]
    have f0:=(iQ (w:=W') (w':=W'.putObj D (.deferred none)) (a:=⟨X+1+1,0,none⟩) (zQ pb)).trans e0;have f1:=(iQ (w:=W') (w':=W'.putObj D (.deferred none)) (a:=⟨X+1+1,1,none⟩) (zQ pb)).trans e1;have f2:=(iQ (w:=W') (w':=W'.putObj D (.deferred none)) (a:=⟨X+1+1,2,none⟩) (zQ pb)).trans e2;have f3:=(iQ (w:=W') (w':=W'.putObj D (.deferred none)) (a:=⟨X+1+1,3,none⟩) (zQ pb)).trans e3;have f4:=(iQ (w:=W') (w':=W'.putObj D (.deferred none)) (a:=⟨X+1+1,4,none⟩) (zQ pb)).trans e4;have f5:=(iQ (w:=W') (w':=W'.putObj D (.deferred none)) (a:=⟨X+1+1,5,none⟩) (zQ pb)).trans e5;have f6:=(iQ (w:=W') (w':=W'.putObj D (.deferred none)) (a:=⟨X+1+1,6,none⟩) (zQ pb)).trans e6;have Bj:W'.heap[D]?=some (.deferred (some [])):=(iv D (by omega)).trans Ft.out;rw[hW'];have zL:∀ k,k≠X+1+1->k≠D->(W'.putObj D (.deferred none)).heap[k]?=W.heap[k]?:=λk h1 h2=>(zQ h2).trans (iv k h1);have yO:(W'.putObj D (.deferred none)).heap.size=W.heap.size:=by simpa using ph
    refine pI Bj (v:=.tuple #[.agg #[.slice A5 n1 c5,.slice vA m vc,.string s,.int .i64 ty,.int .i64 life,.slice A7 n3 c7,.slice A6 n4 c6],.int .i64 0]) (by simp[results,results12,go_sem,f0,f1,f2,f3,f4,f5,f6]) ⟨[.slice A5 n1 c5,.slice vA m vc,.string s,.int .i64 ty,.int .i64 life,.slice A7 n3 c7,.slice A6 n4 c6],tu rfl (by rw[(Np.oL HK.out).2]),?_,py Cq (by omega) _⟩;rw[(Np.oL HK.out).1];have hZ:(Np.jo h t).zones=pl:=SB.out;intro Mq zG;refine⟨.slice A5 n1 c5,.slice vA m vc,s,.slice A7 n3 c7,.slice A6 n4 c6,?_,HS.out.1,HS.out.2,?_,?_,?_,?_⟩
    rotate_left
    ·have h1:=((Br.out.heapR (w':=W'.putObj D (.deferred none)) (λg hg=>zL g (by have:=NAD.out g hg; omega) (by have:=NAD.out g hg; omega)) (λ_ _ h=>h)).sans (M:=Mq) (λk hk=>by have:=zG k hk; omega) (λ_ _ h=>h)).slr jZ (by rw[gH,yO]; omega) (by have:=ix.out; omega);rw[gH] at h1;exact h1
    ·rw[hZ];have h1:=gY.out.slr_sans (M':=λk=>(k=X+1+1\/k=D)\/Mq k) jj gT (λk hk=>by
      rcases hk with (rfl | rfl) | hk
      ·exact⟨.inr (.inr (λhs=>by have:=Tf.out _ hs; omega)),λe=>by have:=(gY.out.lt _ e).1; omega⟩
      ·exact⟨.inr (.inr sP.out),λe=>sP.out (F5.out _ e)⟩
      ·have h2:=zG k hk;exact⟨.inr (.inr (λhs=>by have:=Tf.out _ hs; omega)),λe=>by have:=(gY.out.lt _ e).1; omega⟩) (by omega)
     have h2:=(Leaves'.slr (M:=λk=>(k=X+1+1\/k=D)\/Mq k) (M':=λk=>(k=X+1+1\/k=D)\/Mq k) ig jj gT (w':=W'.putObj D (.deferred none)) ⟨iS.1,iS.2.1,iS.2.2,by rw[yO]; exact bQ _,λi hi hm=>⟨hm,zL i (λe=>hm (.inl (.inl e))) (λe=>hm (.inl (.inr e)))⟩⟩ h1);exact h2.sans jj (λk hk=>.inr hk)
    ·have h1:=((sZ.out.heapR (w':=W'.putObj D (.deferred none)) (λg hg=>zL g (by have:=NDD.out g hg; omega) (by have:=NDD.out g hg; omega)) (λ_ _ h=>h)).sans (M:=Mq) (λk hk=>by have:=zG k hk; omega) (λ_ _ h=>h)).slr dp (by rw[gH,yO]; omega) (by have:=uV.out; omega);rw[gH] at h1;exact h1
    ·have h1:=((HFB.out.heapR (w':=W'.putObj D (.deferred none)) (λg hg=>zL g (by have:=NBD.out g hg; omega) (by have:=NBD.out g hg; omega)) (λ_ _ h=>h)).sans (M:=Mq) (λk hk=>by have:=zG k hk; omega) (λ_ _ h=>h)).slr nv (by rw[gH,yO]; omega) (by have:=sD.out; omega);rw[gH] at h1;exact h1
    ·rw[<-fe.out.1,<-fe.out.2]; rfl
   case round=>
    rintro l0 pre ⟨⟨xh,xf,xt,xs,xA,xn,xc⟩,cc⟩ S W cC hI gk;have lu:pre.length<=500:=by
     have h1:=cC.length_le;have h2:=List.length_filter_le (λx:CV×Np.Copy=>decide (x.1.frm<=t)&&decide (t<x.1.til)) L;have h3:=cR.out.1;have h4:=iA.out;rw[List.length_append,List.length_singleton] at h1;omega
    have wn:Hid ((⟨⟨xh,xf,xt,xs,xA,xn,xc⟩,cc⟩:CV×Np.Copy)∈L):=jq ((List.mem_filter.1 (cC.subset (by simp:(⟨⟨xh,xf,xt,xs,xA,xn,xc⟩,cc⟩:CV×Np.Copy)∈_))).1);have mp:=Yl hI ((vQ _ W).alloc (bQ _) (.cells #[.int .i64 xh,.int .i64 xf,.int .i64 xt,.string xs,.slice xA xn xc] 58));have zg:w6.heap.size<=W.heap.size:=by obtain⟨_,_,_,_,_,_,hB⟩:=hI; exact hB.size
    have JP:=jq cC;have jD:=jq lu;clear hI cC lu;gi_wp2;refine⟨λk=>S k\/k=W.heap.size,(RdStep.refl S W).alloc _,λk e=>e.imp id (λh=>by omega),λk e=>by rcases e with e | e; have:=gk k e; simp; omega; simp; omega,?_⟩;intro l W₂ aB;have Ju:=NE w6 b _ (by omega) pre S _ W₂ mp (aB.weaken (bQ _) (λk e=>.inl e));have lk:=aB.size;simp only[World.size_alloc] at lk;have dX:W₂.heap[W.heap.size]?=some (.cells #[.int .i64 xh,.int .i64 xf,.int .i64 xt,.string xs,.slice xA xn xc] 58):=(aB.keep W.heap.size (by simp) (.inr (.inr rfl))).trans (heap_alloc_new _ _);obtain⟨zv,ED,zh,pO,mq,hown,bA⟩:=Ju;have K7:=jq zh;have eu:=jq pO;have uC:=jq ED;have CE:=jq hown;have Kl:=jq bA;have q9:Hid (∀ k,S k->k<W₂.heap.size):=jq (λk e=>by have:=gk k e; omega);have rj:Hid (CVOf w6 X ⟨xh,xf,xt,xs,xA,xn,xc⟩ cc):=jq (oS.out _ wn.out);have dI:Hid (Below X w6 W₂):=jq (bA.below (by omega) (λk e=>by omega));obtain⟨sets,po⟩:∃ sets,cc.zone.sets=sets:=⟨_,rfl⟩;have wH:=jq po;have Jl:Hid (SlR bK 5 W₂ X (.slice xA xn xc) sets):=jq (by have:=(rj.out.keep dI.out).sets; rw[po] at this; exact this);have qf:sets.length=xn:=by rw[<-po]; exact rj.out.len
    have Qu:xn<=20000:=by rw[<-qf,<-po]; exact cR.out.2 cc (by rw[<-l9.out]; exact List.mem_map.2 ⟨_,wn.out,rfl⟩)
    have rv:=jq qf;obtain⟨vA,vc,rfl⟩:=hown.form;obtain⟨m,hm⟩:∃ m,(pre.map λx:CV×Np.Copy=>Np.eV x.2).length=m:=⟨_,rfl⟩;rw[hm] at mq CE K7;have HM:=jq hm;have xl:Hid (m<=500):=jq (by rw[<-hm,List.length_map]; exact jD.out);obtain⟨zb,lY⟩:∃ zb,W₂.heap.size=zb:=⟨_,rfl⟩;have a0J:W₂.cell? ⟨W.heap.size,3,none⟩=some (.string xs):=by simp[World.cell?,dX]
    have FV:W₂.cell? ⟨W.heap.size,4,none⟩=some (.slice xA xn xc):=by simp[World.cell?,dX]
    obtain⟨w7,gb⟩:∃ w7,W₂.alloc (.cells #[.string xs,.slice none 0 0] 56)=w7:=⟨_,rfl⟩;have lM:w7.heap.size=zb+1:=by rw[<-gb,<-lY]; simp
    have eD:Below zb W₂ w7:=by rw[<-gb,<-lY]; exact (vQ _ _).alloc (bQ _) _
    have Qm:w7.heap[zb]?=some (.cells #[.string xs,.slice none 0 0] 56):=by rw[<-gb,<-lY]; exact heap_alloc_new _ _
    have dcc4:=(cl eD (by omega)).trans FV;have HZO:=jq Qm;have dN:=jq eD;have nu:=jq dX;have ay:=jq mq;have ug:=jq lY;have hXz:X+3<=zb:=by omega
    have h6z:w6.heap.size<=zb:=by omega
    have jS:b<zb:=by omega
    have uz:W.heap.size<zb:=by omega
    have HW7:=jq gb;have hcw:W.heap.size<W₂.heap.size:=by omega
    clear hm hown ED zh pO bA mp aB dX po qf mq Qm eD gk lY gb;gi_wp2_with fail;rw[HW7.out,ug.out];clear a0J FV;obtain⟨is0,JL,Ko,sh,lk⟩:=info_parts Tryz.infoSignedAt;obtain⟨pi0,hpi,ahX,a1Z,aoJ⟩:=info_parts Tryz.infoPlaced;gi_loopw [52] (λi wr=>∃ (j:Nat) (zA:Option Addr) (zc:Nat),j<=xn/\i = .int .i64 j/\zb+1<=wr.heap.size/\Hid (Below zb W₂ wr)/\Hid (wr.heap[zb]?=some (.cells #[.string xs,.slice zA j zc] 56))/\Hid (bJ bK 5 68 (zb+1) (AtZ zb (.slice zA j zc)) wr (.slice zA j zc) (sets.take j))) (λi _=>xn - (intOf i).toNat)
    case atStart=>exact⟨0,none,0,jQ _,rfl,by omega,dN,HZO,jq (by rw[List.take_zero]; exact bJ.nil _)⟩
    case round=>
     obtain⟨j,zA,zc,hj,rfl,E9,aO,iJ,zO⟩:=hrel;by_cases ab:j<xn
     ·obtain⟨x,ac⟩:∃ x,sets[j]?=some x:=⟨_,aQ (by rw[rv.out]; exact ab)⟩;obtain⟨b',o,c',ss,dv,sv,hA,hb',_,hs,t8,bd,aL,e0,e1,e2,e3,e4⟩:=eT (Jl.out.keep aV (aO.out.mono (by omega))) ac;simp only[Value.slice.injEq] at hA;obtain⟨rfl,-,rfl⟩:=hA;have AZ:Hid (sets.take (j+1)=sets.take j ++ [x]):=jq (by
       obtain⟨hl,he⟩:=cQ.1 ac;rw[fQ hl,he])
      have LC:Hid ((sets.take j).length=j):=jq (by rw[List.length_take,rv.out]; omega);have wu:Hid (x.set.data.length<=1000000/\x.sigs.length<=1000000):=jq (by
       have hc:cc∈h.copies:=by rw[<-l9.out]; exact List.mem_map.2 ⟨_,wn.out,rfl⟩
       have hx:x∈cc.zone.sets:=by rw[wH.out]; exact gQ ac
       have:=I3 cc hc x hx
       omega)
      have mr:=jq (And.intro hs t8);have lZ:Hid (∀ W',Below wr.heap.size wr W'->SlR cG 3 W' W'.heap.size dv x.set.data):=jq (λW' hb=>(bd.keep cL (hb.mono (by omega))).more dp (by have:=hb.size; omega));have zK:Hid (∀ W',Below wr.heap.size wr W'->SlR fT 6 W' W'.heap.size sv x.sigs):=jq (λW' hb=>(aL.keep gg (hb.mono (by omega))).more ij (by have:=hb.size; omega));obtain⟨dA,dc,rfl,_,_⟩:=ag bd;obtain⟨gA,gc,rfl,_,_⟩:=ag aL;obtain⟨dn,n9⟩:∃ n,x.set.data.length=n:=⟨_,rfl⟩;obtain⟨gn,oh⟩:∃ n,x.sigs.length=n:=⟨_,rfl⟩;rw[n9] at e3 lZ;rw[oh] at e4 zK;have Jg:=jq n9;have Jq:=jq oh;clear ac hs t8 bd aL n9 oh;have bW:(0:Int)<=(j:Int):=by omega
      have bV:(j:Int)<(xn:Int):=by omega
      obtain⟨w8,iL⟩:∃ w8,wr.alloc (.cells #[.string ss,.int .i64 x.set.type,.int .i64 x.set.life,.slice dA dn dc,.slice gA gn gc] 68)=w8:=⟨_,rfl⟩;have og:w8.heap.size=wr.heap.size+1:=by rw[<-iL]; simp
      have kH:Below wr.heap.size wr w8:=by rw[<-iL]; exact (vQ _ _).alloc (bQ _) _
      have p0:w8.cell? ⟨wr.heap.size,0,none⟩=some (.string ss):=by rw[<-iL]; simp[go_sem]
      have p1:w8.cell? ⟨wr.heap.size,1,none⟩=some (.int .i64 x.set.type):=by rw[<-iL]; simp[go_sem]
      have p2:w8.cell? ⟨wr.heap.size,2,none⟩=some (.int .i64 x.set.life):=by rw[<-iL]; simp[go_sem]
      have p3:w8.cell? ⟨wr.heap.size,3,none⟩=some (.slice dA dn dc):=by rw[<-iL]; simp[go_sem]
      have p4:w8.cell? ⟨wr.heap.size,4,none⟩=some (.slice gA gn gc):=by rw[<-iL]; simp[go_sem]
      have rz:=(kH.block zb (by omega)).trans iJ.out;have r1:w8.cell? ⟨zb,1,none⟩=some (.slice zA j zc):=by simp[World.cell?,rz]
      have Qs:=jq kH;have Sm:=jq kH;clear kH;gi_wp2_with fail;clear iL e0 e1 e2 e3 e4;refine yh λa0 bi=>?_;have jg:=jq bi;have eP:=jq (show a0.eval (.tmp 8) = .pointer (some ⟨zb,0,none⟩) by rw[bi]; rfl);have ld:=jq (show a0.eval (.tmp 10) = .pointer (some ⟨wr.heap.size,0,none⟩) by rw[bi]; rfl);have HM:=jq (show a0.tmps.size=74 by rw[bi]; rfl);clear bi;refine C4 (by kernel_rfl) (by kernel_rfl) (by rintro⟨_,_,h⟩; exact h) ?_;refine fN (w:=w8.drew) (D:=[0,1,2,6]) (A:=[]) (p:=3) (dst:=iE) (val:=jr zb (.slice zA j zc) ss x.set.type x.set.life dA dn dc gA gn gc undef undef undef) (m:=74)
       (base:=dt a0 74 Aw) (fM (by kernel_rfl)) (by simp) (by simp) (fD (by kernel_rfl)) ?_
       (λi hi=>(oz i (by simp at hi |-; omega)).1) (λi hi j hj=>ve i (by simp at hi |-; omega) j (by simp at hj |-; omega)) (λi hi=>cx (oz i (by simp at hi |-; omega)).2) ?_ ?_ _ _ _ (Held.start (λq hq=>pw q hq) HM.out)
      ·intro i hi ar;simp only[List.mem_cons,Qh,or_false] at hi;rcases hi with rfl | rfl | rfl | rfl
       all_goals first | (exfalso; simp at ar; done) | exact⟨_,rfl,rfl⟩
      ·intro i hi ar o ho a' hb aR;have k8':=(aT hb (j:=8) (by decide) (by decide)).trans eP.out;have k10':=(aT hb (j:=10) (by decide) (by decide)).trans ld.out;simp[Act.eval] at k8' k10';simp only[List.mem_cons,Qh,or_false] at hi;rcases hi with rfl | rfl | rfl | rfl
       all_goals first
        | (exfalso; simp at ar; done)
        | (cases ho
           try simp[Act.eval,Region.binds,jr,iE] at aR
           refine .inl ⟨by simp[Region.wanted],λw' hw'=>?_⟩;subst hw';simp[Oper.quietAt,Oper.quietUpon,execOp,go_sem,jr,k8',k10',p0,p1,p2,p3,p4,r1,aR])
      ·intro f listed a' hH hr;obtain⟨_,o,ho,ax⟩:=mem_ready.1 hr
       cases ho
       have hG:=hH.good;have hval:=λi hi hl=>hG.val i hi hl;have bB:∀ k,({ on:=k,ground:=.data } : Edge)∈_->listed.getD k false=true:=λk hk=>ax _ hk rfl;have av2:=hval 2 (by simp) (bB 2 (by simp));simp[Act.eval,jr,iE] at av2;simp only[wpOp];simp[Region.wanted];refine .inl ?_;simp[Oper.wp,go_sem,av2];refine (LO ss x.set.type x.set.life _ x.set.data _ x.sigs wu.out.1 wu.out.2 w8.drew (lZ.out w8.drew Sm.out.drew) (zK.out w8.drew Sm.out.drew)).mono ?_;rintro e w9 ⟨dv2,gv2,rfl,jE,R8⟩;have dY:Below w8.heap.size w8 w9:=(vQ w8.heap.size w8).drew.trans R8;have tc:=dY.size;replace p0:=(cl dY (by omega)).trans p0;replace p1:=(cl dY (by omega)).trans p1;replace p2:=(cl dY (by omega)).trans p2;replace p3:=(cl dY (by omega)).trans p3;replace p4:=(cl dY (by omega)).trans p4;replace r1:=(cl dY (by omega)).trans r1;replace rz:=(dY.block zb (by omega)).trans rz;have mP:Hid (Ic w8.heap.size w9 dv2 gv2 x.set.data x.sigs):=jq jE;obtain⟨dA2,dc2,rfl,_,_⟩:=ag ((jE (λ_=>False) (λ_ e=>e.elim)).1);obtain⟨gA2,gc2,rfl,_,_⟩:=ag ((jE (λ_=>False) (λ_ e=>e.elim)).2);rw[Jg.out,Jq.out] at mP |-;have axQ:=jq (zO.out.keep aV ji bR (Qs.out.trans (dY.mono (by omega))));have fX:=jq dY;clear jE dY R8;dsimp only;refine fN (w:=w9) (D:=[0,1,2,6,3]) (A:=[3]) (p:=4) (dst:=iE) (val:=jr zb (.slice zA j zc) ss x.set.type x.set.life dA dn dc gA gn gc (.agg #[.string ss,.int .i64 x.set.type,.int .i64 x.set.life,.slice dA2 dn dc2,.slice gA2 gn gc2]) undef undef) (m:=74)
        (base:=dt a0 74 Aw) (fM (by kernel_rfl)) (by simp) (by simp) (fD (by kernel_rfl)) ?_
        (λi hi=>(oz i (by simp at hi |-; omega)).1) (λi hi j hj=>ve i (by simp at hi |-; omega) j (by simp at hj |-; omega)) (λi hi=>cx (oz i (by simp at hi |-; omega)).2) ?_ ?_ _ _ _ (hH.act (D':=[0,1,2,6,3]) (val':=jr zb (.slice zA j zc) ss x.set.type x.set.life dA dn dc gA gn gc (.agg #[.string ss,.int .i64 x.set.type,.int .i64 x.set.life,.slice dA2 dn dc2,.slice gA2 gn gc2]) undef undef) hr (by simp) (λi hi=>by simp at hi |-; omega) (λi hi=>by simp at hi; rcases hi with rfl | rfl | rfl | rfl <;> rfl) rfl (by simp[iE]) (λj hj=>ve 3 (by simp) j (by simp at hj |-; omega) (by rintro rfl; simp at hj)) (cx (oz 3 (by simp)).2) (by simp))
       ·intro i hi ar;simp only[List.mem_cons,Qh,or_false] at hi;rcases hi with rfl | rfl | rfl | rfl | rfl
        all_goals first | (exfalso; simp at ar; done) | exact⟨_,rfl,rfl⟩
       ·intro i hi ar o ho a' hb aR;have k8':=(aT hb (j:=8) (by decide) (by decide)).trans eP.out;have k10':=(aT hb (j:=10) (by decide) (by decide)).trans ld.out;simp[Act.eval] at k8' k10';simp only[List.mem_cons,Qh,or_false] at hi;rcases hi with rfl | rfl | rfl | rfl | rfl
        all_goals first
         | (exfalso; simp at ar; done)
         | (cases ho
            try simp[Act.eval,Region.binds,jr,iE] at aR
            refine .inl ⟨by simp[Region.wanted],λw' hw'=>?_⟩;subst hw';simp[Oper.quietAt,Oper.quietUpon,execOp,go_sem,jr,k8',k10',p0,p1,p2,p3,p4,r1,aR])
       ·intro f listed a' hH hr;obtain⟨_,o,ho,ax⟩:=mem_ready.1 hr
        cases ho
        have hG:=hH.good;have hval:=λi hi hl=>hG.val i hi hl;have bB:∀ k,({ on:=k,ground:=.data } : Edge)∈_->listed.getD k false=true:=λk hk=>ax _ hk rfl;have av3:=hval 3 (by simp) (bB 3 (by simp));simp[Act.eval,jr,iE] at av3;simp only[wpOp];simp[Region.wanted];refine .inl ?_;simp[Oper.wp,execOp,go_sem,av3];obtain⟨wX,lc⟩:∃ W,W=w9.alloc (.cells #[.string ss,.int .i64 x.set.type,.int .i64 x.set.life,.slice dA2 dn dc2,.slice gA2 gn gc2] 68):=⟨_,rfl⟩;rw[<-lc];have aY:Below w9.heap.size w9 wX:=by rw[lc]; exact (vQ _ _).alloc (bQ _) _
        have Be:cN wX w9.heap.size 0 [.string ss,.int .i64 x.set.type,.int .i64 x.set.life,.slice dA2 dn dc2,.slice gA2 gn gc2]:=λi v hi=>by
         rw[lc]
         match i,hi with
         | 0,hi=>cases hi; simp[go_sem]
         | 1,hi=>cases hi; simp[go_sem]
         | 2,hi=>cases hi; simp[go_sem]
         | 3,hi=>cases hi; simp[go_sem]
         | 4,hi=>cases hi; simp[go_sem]
         | i+5,hi=>simp at hi
        have PI:=aY.size;replace p0:=(cl aY (by omega)).trans p0;replace p1:=(cl aY (by omega)).trans p1;replace p2:=(cl aY (by omega)).trans p2;replace p3:=(cl aY (by omega)).trans p3;replace p4:=(cl aY (by omega)).trans p4;replace r1:=(cl aY (by omega)).trans r1;replace rz:=(aY.block zb (by omega)).trans rz;have pU:=jq Be;have azX:=jq aY;have Rx:=jq (axQ.out.keep aV ji bR aY);have mB:Hid (bK (bp wX (AtZ zb (.slice zA j zc))) wX.heap.size [.string ss,.int .i64 x.set.type,.int .i64 x.set.life,.slice dA2 dn dc2,.slice gA2 gn gc2] x):=jq (by
         have h1:=mP.out (AtZ zb (.slice zA j zc)) (λk hk=>by
          rcases hk with hk | hk
          ·omega
          ·have:=(zO.out.lt k hk).2; omega)
         have h2:=(Leaves'.of_below (M:=AtZ zb (.slice zA j zc)) aY).slr cL vd dp h1.1;have h3:=(Leaves'.of_below (M:=AtZ zb (.slice zA j zc)) aY).slr gg yc ij h1.2;exact⟨ss,_,_,mr.out.1,mr.out.2,h2,h3,rfl⟩)
        clear lc aY Be;refine fN (w:=wX) (D:=[0,1,2,6,3,4]) (A:=[4,3]) (p:=5) (dst:=iE) (val:=jr zb (.slice zA j zc) ss x.set.type x.set.life dA dn dc gA gn gc (.agg #[.string ss,.int .i64 x.set.type,.int .i64 x.set.life,.slice dA2 dn dc2,.slice gA2 gn gc2]) (.slice (some ⟨w9.heap.size,0,none⟩) 1 1) undef) (m:=74)
         (base:=dt a0 74 Aw) (fM (by kernel_rfl)) (by simp) (by simp) (fD (by kernel_rfl)) ?_
         (λi hi=>(oz i (by simp at hi |-; omega)).1) (λi hi j hj=>ve i (by simp at hi |-; omega) j (by simp at hj |-; omega)) (λi hi=>cx (oz i (by simp at hi |-; omega)).2) ?_ ?_ _ _ _ (hH.act (D':=[0,1,2,6,3,4]) (val':=jr zb (.slice zA j zc) ss x.set.type x.set.life dA dn dc gA gn gc (.agg #[.string ss,.int .i64 x.set.type,.int .i64 x.set.life,.slice dA2 dn dc2,.slice gA2 gn gc2]) (.slice (some ⟨w9.heap.size,0,none⟩) 1 1) undef) hr (by simp) (λi hi=>by simp at hi |-; omega) (λi hi=>by simp at hi; rcases hi with rfl | rfl | rfl | rfl | rfl <;> rfl) rfl (by simp[iE]) (λj hj=>ve 4 (by simp) j (by simp at hj |-; omega) (by rintro rfl; simp at hj)) (cx (oz 4 (by simp)).2) (by simp))
        ·intro i hi ar;simp only[List.mem_cons,Qh,or_false] at hi;rcases hi with rfl | rfl | rfl | rfl | rfl | rfl
         all_goals first | (exfalso; simp at ar; done) | exact⟨_,rfl,rfl⟩
        ·intro i hi ar o ho a' hb aR;have k8':=(aT hb (j:=8) (by decide) (by decide)).trans eP.out;have k10':=(aT hb (j:=10) (by decide) (by decide)).trans ld.out;simp[Act.eval] at k8' k10';simp only[List.mem_cons,Qh,or_false] at hi;rcases hi with rfl | rfl | rfl | rfl | rfl | rfl
         all_goals first
          | (exfalso; simp at ar; done)
          | (cases ho
             try simp[Act.eval,Region.binds,jr,iE] at aR
             refine .inl ⟨by simp[Region.wanted],λw' hw'=>?_⟩;subst hw';simp[Oper.quietAt,Oper.quietUpon,execOp,go_sem,jr,k8',k10',p0,p1,p2,p3,p4,r1,aR])
        ·intro f listed a' hH hr;obtain⟨_,o,ho,ax⟩:=mem_ready.1 hr
         cases ho
         have hG:=hH.good;have hval:=λi hi hl=>hG.val i hi hl;have bB:∀ k,({ on:=k,ground:=.data } : Edge)∈_->listed.getD k false=true:=λk hk=>ax _ hk rfl;have av1:=hval 1 (by simp) (bB 1 (by simp));have av4:=hval 4 (by simp) (bB 4 (by simp));simp[jr,iE] at av1 av4;simp only[wpOp];simp[Region.wanted];refine .inl ?_;refine Dg (R:=bK) (M:=AtZ zb (.slice zA j zc)) wX (.tmp 57) (.tmp 60) 54 rfl (zb+1) 68 is0 (.agg #[.string ⟨#[]⟩,.int .i64 0,.int .i64 0,.slice none 0 0,.slice none 0 0]) 80 underlying54 JL Ko sh lk rfl (by decide) (.slice zA j zc) (sets.take j) av1 Rx.out (some ⟨w9.heap.size,0,none⟩) 1 [x] av4 (yd rfl mB.out pU.out) UA (by rw[LC.out]; simp[maxLen]; omega) (by rw[LC.out]; simp; omega) (by omega) aV ji bR ?_;intro v8 wY eh cJ iP;obtain⟨A8,c8,rfl⟩:=eh.formN (n:=j+1) (by rw[List.length_append,LC.out]; rfl);have rc:Below (zb+1) wX wY:=(vQ _ _).grown cJ (by omega) (λg hg=>(Rx.out.lt g hg).1);have Qn:=rc.size;have EJ:some wr.heap.size≠(Value.slice zA j zc).ownBlock:=λe=>by have:=(zO.out.lt _ e.symm).2; omega
         have Ri:wr.heap.size<wX.heap.size:=by omega
         have kZ:=cJ.block wr.heap.size Ri EJ;replace p0:=(iQ (a:=⟨wr.heap.size,0,none⟩) kZ).trans p0;replace p1:=(iQ (a:=⟨wr.heap.size,1,none⟩) kZ).trans p1;replace p2:=(iQ (a:=⟨wr.heap.size,2,none⟩) kZ).trans p2;replace p3:=(iQ (a:=⟨wr.heap.size,3,none⟩) kZ).trans p3;replace p4:=(iQ (a:=⟨wr.heap.size,4,none⟩) kZ).trans p4;replace r1:=(cl rc (by omega)).trans r1;replace rz:=(rc.block zb (by omega)).trans rz;have H8:=jq (And.intro eh (And.intro rc iP));clear eh cJ iP rc;refine fN (w:=wY) (D:=[0,1,2,6,3,4,5]) (A:=[5,4,3]) (p:=7) (dst:=iE) (val:=jr zb (.slice zA j zc) ss x.set.type x.set.life dA dn dc gA gn gc (.agg #[.string ss,.int .i64 x.set.type,.int .i64 x.set.life,.slice dA2 dn dc2,.slice gA2 gn gc2]) (.slice (some ⟨w9.heap.size,0,none⟩) 1 1) (.slice A8 (j+1) c8)) (m:=74)
          (base:=dt a0 74 Aw) (fM (by kernel_rfl)) (by simp) (by simp) (fD (by kernel_rfl)) ?_
          (λi hi=>(oz i (by simp at hi |-; omega)).1) (λi hi j hj=>ve i (by simp at hi |-; omega) j (by simp at hj |-; omega)) (λi hi=>cx (oz i (by simp at hi |-; omega)).2) ?_ ?_ _ _ _ (hH.act (D':=[0,1,2,6,3,4,5]) (val':=jr zb (.slice zA j zc) ss x.set.type x.set.life dA dn dc gA gn gc (.agg #[.string ss,.int .i64 x.set.type,.int .i64 x.set.life,.slice dA2 dn dc2,.slice gA2 gn gc2]) (.slice (some ⟨w9.heap.size,0,none⟩) 1 1) (.slice A8 (j+1) c8)) hr (by simp) (λi hi=>by simp at hi |-; omega) (λi hi=>by simp at hi; rcases hi with rfl | rfl | rfl | rfl | rfl | rfl <;> rfl) rfl (by simp[iE]) (λj hj=>ve 5 (by simp) j (by simp at hj |-; omega) (by rintro rfl; simp at hj)) (cx (oz 5 (by simp)).2) (by simp))
         ·intro i hi ar;simp only[List.mem_cons,Qh,or_false] at hi;rcases hi with rfl | rfl | rfl | rfl | rfl | rfl | rfl
          all_goals first | (exfalso; simp at ar; done) | exact⟨_,rfl,rfl⟩
         ·intro i hi ar o ho a' hb aR;have k8':=(aT hb (j:=8) (by decide) (by decide)).trans eP.out;have k10':=(aT hb (j:=10) (by decide) (by decide)).trans ld.out;simp[Act.eval] at k8' k10';simp only[List.mem_cons,Qh,or_false] at hi;rcases hi with rfl | rfl | rfl | rfl | rfl | rfl | rfl
          all_goals first
           | (exfalso; simp at ar; done)
           | (cases ho
              try simp[Act.eval,Region.binds,jr,iE] at aR
              refine .inl ⟨by simp[Region.wanted],λw' hw'=>?_⟩;subst hw';simp[Oper.quietAt,Oper.quietUpon,execOp,go_sem,jr,k8',k10',p0,p1,p2,p3,p4,r1,aR])
         ·intro f listed a' hH hr;obtain⟨_,o,ho,ax⟩:=mem_ready.1 hr
          cases ho
          have hG:=hH.good;have hval:=λi hi hl=>hG.val i hi hl;have bB:∀ k,({ on:=k,ground:=.data } : Edge)∈_->listed.getD k false=true:=λk hk=>ax _ hk rfl;obtain⟨rfl,bY⟩:=hH.all hr (by kernel_rfl);have av5:=hval 5 (by simp) (bY 5 (by simp) (by simp));have av6:=hval 6 (by simp) (bY 6 (by simp) (by simp));simp[Act.eval,jr,iE] at av5 av6;have gE:=Held.frame (D:=[0,1,2,6,3,4,5]) (dst:=iE) (a0:=a0) (m:=74) hH HM.out (λi hi=>bY i (by simp at hi |-; omega) (by simp at hi; omega)) (λi hi=>(oz i (by simp at hi |-; omega)).1);simp only[wpOp];simp[Region.wanted];refine .inl ?_;have rf:wY.frozen? ⟨zb,1,none⟩=false:=by simp[World.frozen?,rz]
          simp[Oper.wp,execOp,go_sem,av5,av6,r1,rf];refine⟨pz (λi hi=>?_) (by rw[Array.size_setIfInBounds]; exact hG.size),?_⟩
          ·by_cases hip:i=7
           ·subst hip;have hs:7<listed.size:=by rw[hG.size]; exact hi
            simp[Array.getD,hs]
           ·exact kL (bY i hi hip)
          ·rw[gE,jg.out];simp[jJ,Act.put,jr,iE];clear gE hval bB bY ax hG hH;clear p0 p1 p2 p3 p4 r1 rf;have iJ:=jq rz;clear rz;gi_wp2_with fail;go_roundw
           case measure=>simp[intOf] <;> omega
           case rel=>
            refine⟨j+1,A8,c8,by omega,by go_num,by simp[World.setCell]; omega,jq ?_,jq ?_,jq ?_⟩
            ·exact ((aO.out.trans (((Qs.out.mono (by omega)).trans ((fX.out.mono (by omega)).trans (azX.out.mono (by omega)))).trans (H8.out.2.1.mono (by omega))))).setCell (by dsimp only; omega) _
            ·simp[World.setCell,Array.getElem?_modify,iJ.out]
            ·rw[AZ.out];refine H8.out.1.leaves aV ji bR ⟨rfl,rfl,rfl,by simp[World.setCell],λi hi hm=>⟨λe=>hm ?_,wQ _ _ _ _ (λe=>hm (.inl (.inl (by rw[e]; exact bQ _))))⟩⟩ (λg hg=>⟨wQ _ _ _ _ (λe=>by have:=(H8.out.1.lt g hg).1; rw[e] at this; dsimp only at this; omega),.inr hg⟩);rcases e with e | e
             ·exact .inl (.inl e)
             ·exact .inr e
     ·obtain rfl:j=xn:=by omega
      have fe:Hid (sets.take j=sets):=jq (kQ (by rw[rv.out]; exact bQ _));rw[fe.out] at zO;have nZ:=aO.out;have iz:∀ g,(Value.slice vA m vc).ownBlock=some g->w6.heap.size<=g/\g<zb:=λg hg=>by have:=CE.out.lt g hg; rw[ug.out] at this; exact this
      have FJ:∀ g,(Value.slice zA j zc).ownBlock=some g->zb+1<=g/\g<wr.heap.size:=λg hg=>zO.out.lt g hg;have Qq:Below W₂.heap.size W₂ wr:=by rw[ug.out]; exact nZ
      have K4:=(nZ.block W.heap.size uz).trans nu.out;have BZ:wr.cell? ⟨W.heap.size,0,none⟩=some (.int .i64 xh):=by simp[World.cell?,K4]
      have dF:=(nZ.block b jS).trans ay.out;have Rj:wr.cell? ⟨b,1,none⟩=some (.slice vA m vc):=by simp[World.cell?,dF]
      have a9Y:wr.cell? ⟨zb,0,none⟩=some (.string xs):=by simp[World.cell?,iJ.out]
      have bcY:wr.cell? ⟨zb,1,none⟩=some (.slice zA j zc):=by simp[World.cell?,iJ.out]
      obtain⟨M13,Sk⟩:∃ M13:Nat->Prop,M13=AtM b w6.heap.size (.slice vA m vc) (λk=>S k\/zb<=k):=⟨_,rfl⟩;have zM:Hid (∀ k,M13 k↔k=b\/(Value.slice vA m vc).ownBlock=some k\/¬ (S k\/zb<=k)):=jq (λk=>by rw[Sk]; exact Iff.rfl);have F0:Hid (bJ il 3 60 w6.heap.size M13 wr (.slice vA m vc) (pre.map λx:CV×Np.Copy=>Np.eV x.2)):=jq (by
       have h1:=CE.out.keep ig jj gT Qq;refine h1.leaves ig jj gT ((Leaves'.refl _ wr).more (λk e=>.inl ?_)) (λg hg=>⟨rfl,(zM.out g).2 (.inr (.inl hg))⟩);rcases (zM.out k).1 e with e | e | e2
       ·exact .inl e
       ·exact .inr (.inl e)
       ·exact .inr (.inr (λhs=>e2 (.inl hs))))
      obtain⟨wX,lc⟩:∃ wX,wr.alloc (.cells #[.int .i64 xh,.string xs,.slice zA j zc] 60)=wX:=⟨_,rfl⟩;have aY:Below wr.heap.size wr wX:=by rw[<-lc]; exact (vQ _ _).alloc (bQ _) _
      have PI:wX.heap.size=wr.heap.size+1:=by rw[<-lc]; simp
      have pU:Hid (cN wX wr.heap.size 0 [.int .i64 xh,.string xs,.slice zA j zc]):=jq (λi v hi=>by
       rw[<-lc]
       match i,hi with
       | 0,hi=>cases hi; simp[go_sem]
       | 1,hi=>cases hi; simp[go_sem]
       | 2,hi=>cases hi; simp[go_sem]
       | i+3,hi=>simp at hi)
      have BO:Hid (il (bp wX M13) wX.heap.size [.int .i64 xh,.string xs,.slice zA j zc] (Np.eV cc)):=jq (by
       have h1:=zO.out.slr_sans (M':=M13) ji bR (λk hk=>by
        rcases (zM.out k).1 hk with e | e | e2
        ·exact⟨.inl (by omega),λe'=>by have:=FJ k e'; omega⟩
        ·have h2:=iz k e;exact⟨.inl (by omega),λe'=>by have:=FJ k e'; omega⟩
        ·have h3:¬ zb<=k:=λh=>e2 (.inr h);exact⟨.inl (by omega),λe'=>by have:=FJ k e'; omega⟩) (by rw[rv.out]; omega)
       have h2:=(Leaves'.of_below (M:=M13) aY).slr aV ji bR h1;have e1:(Np.eV cc)=⟨xh,cc.zone⟩:=by unfold Np.eV; rw[<-rj.out.host]
       rw[e1];exact⟨xs,_,rj.out.apex,rj.out.size,by rw[wH.out]; exact h2,rfl⟩)
      have HOX:=jq (F0.out.keep ig jj gT aY);have yH:=jq aY;have Tb:=jq nZ;have aVY:=jq ((aY.block b (by omega)).trans dF);have Sh:=jq iz;clear Sk iz FJ Qq K4 dF aY nZ;gi_wp2_with (first
       | (gi_at_builtin; refine LY rfl (by intro c h; cases h) (by rintro⟨_,_,h⟩; exact h) ?_; refine Gc (R:=il) (M:=M13) wX rfl _ _ 32 rfl w6.heap.size 60 pi0 (.agg #[.int .i64 0,.string ⟨#[]⟩,.slice none 0 0]) 48 underlying32 hpi ahX a1Z aoJ rfl (by decide) (.slice vA m vc) _ rfl HOX.out (some ⟨wr.heap.size,0,none⟩) 1 [Np.eV cc] rfl (yd rfl BO.out pU.out) Me (by rw[HM.out]; have:=xl.out; simp[maxLen]; omega) (by rw[HM.out]; have:=xl.out; simp; omega) (by omega) ig jj gT ?_; intro v8 wY eh cJ iP; obtain⟨A8,c8,rfl⟩:=eh.formN (n:=m+1) (by rw[List.length_append,HM.out]; rfl); have rc:=(cJ.block b (by omega) (λe=>by have:=(Sh.out b e.symm).1; omega)).trans aVY.out; have sI:=jq rc; have y1:wY.cell? ⟨b,1,none⟩=some (.slice vA m vc):=(by simp[World.cell?,rc]); have z1:wY.frozen? ⟨b,1,none⟩=false:=(by simp[World.frozen?,rc]); have Qn:=cJ.size; have H8:=jq (And.intro eh (And.intro cJ iP)); clear eh cJ iP rc; refine M8 ?_))
      have IQ:∀ k,(Value.slice A8 (m+1) c8).ownBlock=some k->(Value.slice vA m vc).ownBlock=some k\/wX.heap.size=k:=λk e=>by
       rcases H8.out.2.2 with h | h
       ·exact .inl (h ▸ e)
       ·rw[h] at e; exact .inr (Option.some.inj e)
      have JA:∀ k,(Value.slice A8 (m+1) c8).ownBlock=some k->w6.heap.size<=k/\k<wY.heap.size:=λk e=>H8.out.1.lt k e;obtain⟨W',hW'⟩:∃ W',wY.setCell ⟨b,1,none⟩ (.slice A8 (m+1) c8)=W':=⟨_,rfl⟩;have ph:W'.heap.size=wY.heap.size:=by rw[<-hW']; simp
      have iv:∀ k,k≠b->W'.heap[k]?=wY.heap[k]?:=λk hk=>by rw[<-hW']; exact wQ _ _ _ _ hk
      have adK:W'.heap[b]?=some (.cells #[.slice A5 n1 c5,.slice A8 (m+1) c8,.string s,.int .i64 ty,.int .i64 life,.slice A7 n3 c7,.slice A6 n4 c6] 34):=by rw[<-hW']; simp[World.setCell,Array.getElem?_modify,sI.out]
      have rm:Hid (RdStep (λk=>S k\/k=W.heap.size) W₂ W'):=jq (by
       rw[<-hW'];exact ((RdStep.of_below (S:=λk=>S k\/k=W.heap.size) (by rw[ug.out]; exact Tb.out.trans (yH.out.mono (by omega)))).grown H8.out.2.1 (λk e=>.inl (.inl (K7.out k e)))).setCell (.inl (.inl uC.out)) _)
      have mY:Hid (RdStep (λk=>k=b) w6 W'):=jq (by
       rw[<-hW'];exact ((Kl.out.then_below (by rw[ug.out]; exact Tb.out.trans (yH.out.mono (by omega)))).grown H8.out.2.1 (λk e=>.inr (Sh.out k e).1)).setCell (.inl rfl) _)
      rw[hW'];refine⟨λk=>S k\/(zb<=k/\k<W'.heap.size),rm.out,λk e=>?_,λk e=>?_,.slice A8 (m+1) c8,.inl uC.out,λg hg=>?_,λk e=>?_,adK,?_,mY.out⟩
      ·rcases e with e | e
       ·exact .inl (.inl e)
       ·right; rw[ug.out]; exact e.1
      ·rcases e with e | e
       ·have:=q9.out k e; rw[ug.out] at this; omega
       ·exact e.2
      ·rcases IQ g hg with e | e
       ·exact .inl (K7.out g e)
       ·right; have:=(JA g hg).2; omega
      ·rcases e with e | e
       ·exact eu.out k e
       ·right; omega
      ·rw[List.map_append];refine H8.out.1.leaves ig jj gT ⟨by rw[<-hW']; rfl,by rw[<-hW']; rfl,by rw[<-hW']; rfl,by omega,λi hi hm=>⟨λe=>hm ?_,iv i (λe=>hm (.inl ((zM.out i).2 (.inl e))))⟩⟩ (λg hg=>⟨iv g (λe=>by have:=(JA g hg).1; omega),.inr (.inl hg)⟩);rcases e with e | e | e2
       ·exact .inl ((zM.out i).2 (.inl e))
       ·exact .inr e
       ·exact .inl ((zM.out i).2 (.inr (.inr (λh=>e2 (by
         rcases h with h | h
         ·exact .inl h
         ·exact .inr ⟨h,by omega⟩)))))
end
end Go.Proofs.YtbfbobfbgabjiaaGreatDoor
