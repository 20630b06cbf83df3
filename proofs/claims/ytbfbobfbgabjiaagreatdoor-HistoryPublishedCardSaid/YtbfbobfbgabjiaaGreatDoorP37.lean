/- Parts of the proof. No condition. -/
import Derived.Test.YtbfbobfbgabjiaaGreatDoorP26
import Derived.Test.YtbfbobfbgabjiaaGreatDoorP31
import Derived.Test.YtbfbobfbgabjiaaGreatDoorP32
set_option linter.all false
set_option maxRecDepth 100000
set_option maxHeartbeats 8000000
namespace Go.Proofs.YtbfbobfbgabjiaaGreatDoor
open Go.Proofs.Tryz
section
open Go.RowKit Go.Shelf
attribute [local go_sem] Oper.semAt_some CV.cells
def jS(X:Nat)(A1:Option Addr)(n1 c1:Nat)(s:ByteArray)(ty life:Int)(A3:Option Addr)(n3 c3:Nat)(A4:Option Addr)(n4 c4:Nat)(e:Nat->Value)(i:Nat):Value:=[.pointer (some ⟨X,0,none⟩),.slice A1 n1 c1,e 2,.pointer (some ⟨X,2,none⟩),.agg #[.string s,.int .i64 ty,.int .i64 life,.slice A3 n3 c3],.pointer (some ⟨X,6,none⟩),.slice A4 n4 c4,e 7,.agg #[(e 2),.slice none 0 0,.string s,.int .i64 ty,.int .i64 life,.slice A3 n3 c3,(e 7)],e 9,undef].getD i undef
def tp(i:Nat):Nat:=[25,26,27,28,29,30,31,32,33,6,0].getD i 0
def mB(i:Nat):List Nat:=[[],[],[2],[],[],[],[],[7],[2,7],[9],[]].getD i []
theorem M4(X:Nat)(A1:Option Addr)(n1 c1:Nat)(s:ByteArray)(ty life:Int)(A3:Option Addr)(n3 c3:Nat)(A4:Option Addr)(n4 c4:Nat)(i:Nat)(e e':Nat->Value)(h:∀ j∈mB i,e j=e' j):jS X A1 n1 c1 s ty life A3 n3 c3 A4 n4 c4 e i=jS X A1 n1 c1 s ty life A3 n3 c3 A4 n4 c4 e' i:=by
 match i,h with
 | 0,_=>rfl
 | 1,_=>rfl
 | 2,h=>simp[jS,h 2 (by simp[mB])]
 | 3,_=>rfl
 | 4,_=>rfl
 | 5,_=>rfl
 | 6,_=>rfl
 | 7,h=>simp[jS,h 7 (by simp[mB])]
 | 8,h=>simp[jS,h 2 (by simp[mB]),h 7 (by simp[mB])]
 | 9,h=>simp[jS,h 9 (by simp[mB])]
 | 10,_=>rfl
 | _+11,_=>rfl
def DA(v2 v7:Value)(b i:Nat):Value:=if i=2 then v2 else if i=7 then v7 else .pointer (some ⟨b,0,none⟩)
theorem Vk{e:Nat->Value}{v2 v7:Value}{b i j:Nat}(h2:e 2=v2)(h7:e 7=v7)(h9:e 9 = .pointer (some ⟨b,0,none⟩))(hj:j∈mB i):e j=DA v2 v7 b j:=by
 have hT:j=2\/j=7\/j=9:=by
  match i,hj with
  | 0,hj | 1,hj | 2,hj | 3,hj | 4,hj | 5,hj | 6,hj | 7,hj | 8,hj | 9,hj | 10,hj=>simp[mB] at hj <;> omega
  | _+11,hj=>simp[mB] at hj
 rcases hT with rfl | rfl | rfl
 ·exact h2
 ·exact h7
 ·exact h9
def iT(zb:Nat)(zv:Value)(ss:ByteArray)(sty slf:Int)(dA:Option Addr)(dn dc:Nat)(gA:Option Addr)(gn gc:Nat)(e3:Value)(e4:Value)(e5:Value)(i:Nat):Value:=[.pointer (some ⟨zb,1,none⟩),zv,.agg #[.string ss,.int .i64 sty,.int .i64 slf,.slice dA dn dc,.slice gA gn gc],e3,e4,e5,.pointer (some ⟨zb,1,none⟩),undef].getD i undef
def g8(i:Nat):Nat:=[56,57,58,59,60,61,62,0].getD i 0
def AO:List Nat:=[0,1,2,6,3,4,5].map g8
theorem oj:∀ i∈[0,1,2,6,3,4,5],g8 i<74/\g8 i∈AO:=by decide
theorem vD:∀ i∈[0,1,2,6,3,4,5],∀ j∈[0,1,2,6,3,4,5],j≠i->g8 i≠g8 j:=by decide
def Lk(a0:Act)(X:Nat)(A1:Option Addr)(n1 c1:Nat)(s:ByteArray)(ty life:Int)(A3:Option Addr)(n3 c3:Nat)(A4:Option Addr)(n4 c4:Nat)(h:Np.Hist)(Zt:Nat)(w2:World):Exit->Act->World->Prop:=λe a' w'=>e=Exit.normal/\∃ A5 c5 A6 c6 b,a'=lE a0 ([0,1,3,4,5,6,8,2,7,9].map λi=>(tp i,jS X A1 n1 c1 s ty life A3 n3 c3 A4 n4 c4 (DA (.slice A5 n1 c5) (.slice A6 n4 c6) b) i))/\bl gb 3 64 Zt Zt w' (.slice A5 n1 c5) h.hosts/\bl gJ 1 3 Zt Zt w' (.slice A6 n4 c6) h.hints/\w'.heap[b]?=some (.cells #[.slice A5 n1 c5,.slice none 0 0,.string s,.int .i64 ty,.int .i64 life,.slice A3 n3 c3,.slice A6 n4 c6] 34)/\Zt<=b/\b<w'.heap.size/\(Value.slice A5 n1 c5).ownBlock≠some b/\(Value.slice A6 n4 c6).ownBlock≠some b/\Below Zt w2 w'
theorem bl.weakR{α:Type}{R:World->Nat->List Value->α->Prop}{sz:Nat}{e:TypeId}{base B base':Nat}{w:World}{v:Value}{xs:List α}(h:bl R sz e base B w v xs)(hb:base'<=base)(hr:∀ r x,R w B r x->R w base' r x):bl R sz e base' base' w v xs:=by
 obtain⟨rows,h1,h2,h3⟩:=h;exact⟨rows,h1,⟨h2.1,by
  rcases h2.2 with h | ⟨g,cap,cur,h4,h5,h6⟩
  ·exact .inl h
  ·exact .inr ⟨g,cap,cur,h4,yQ hb h5,h6⟩⟩,λi r x hr' hx=>⟨(h3 i r x hr' hx).1,hr _ _ (h3 i r x hr' hx).2⟩⟩
theorem bl.ltR{α:Type}{R:World->Nat->List Value->α->Prop}{sz:Nat}{e:TypeId}{base B:Nat}{w:World}{v:Value}{xs:List α}(h:bl R sz e base B w v xs):∀ g,v.ownBlock=some g->base<=g/\g<w.heap.size:=by
 obtain⟨rows,h1,h2,h3⟩:=h;exact h2.lt
theorem bl.heapR{α:Type}{R:World->Nat->List Value->α->Prop}{sz:Nat}{e:TypeId}{base B:Nat}{w w':World}{v:Value}{xs:List α}(h:bl R sz e base B w v xs)(hk:∀ g,v.ownBlock=some g->w'.heap[g]?=w.heap[g]?)(hr:∀ r x,R w B r x->R w' B r x):bl R sz e base B w' v xs:=by
 obtain⟨rows,h1,h2,h3⟩:=h;exact⟨rows,h1,fU h2 hk,λi r x hr' hx=>⟨(h3 i r x hr' hx).1,hr _ _ (h3 i r x hr' hx).2⟩⟩
structure At3Inv(h:Np.Hist)(Zt n1 n4:Nat)(w2:World)(A:List Nat)(e:Nat->Value)(u:World):Prop where
 below:Below Zt w2 u
 lt:Zt<=u.heap.size
 hosts:2∈A->∃ A5 c5,e 2 = .slice A5 n1 c5/\bl gb 3 64 Zt Zt u (e 2) h.hosts
 hints:7∈A->∃ A6 c6,e 7 = .slice A6 n4 c6/\bl gJ 1 3 Zt Zt u (e 7) h.hints
 box:9∈A->∃ b,e 9 = .pointer (some ⟨b,0,none⟩)/\Zt<=b/\b<u.heap.size/\u.heap[b]?=some (.cells #[.slice none 0 0,.slice none 0 0,.string ⟨#[]⟩,.int .i64 0,.int .i64 0,.slice none 0 0,.slice none 0 0] 34)/\(2∈A->(e 2).ownBlock≠some b)/\(7∈A->(e 7).ownBlock≠some b)
theorem At3Inv.keep{h:Np.Hist}{Zt n1 n4:Nat}{w2:World}{A:List Nat}{e:Nat->Value}{u u':World}(k:At3Inv h Zt n1 n4 w2 A e u)(hb:Below u.heap.size u u'):At3Inv h Zt n1 n4 w2 A e u':=
 ⟨k.below.trans (hb.mono k.lt),yQ k.lt hb.size,λh=>(k.hosts h).imp λ_ h=>h.imp λ_ h=>⟨h.1,h.2.keep fw hb k.lt⟩,λh=>(k.hints h).imp λ_ h=>h.imp λ_ h=>⟨h.1,h.2.keep kR hb k.lt⟩,λh=>(k.box h).imp λb h=>⟨h.1,h.2.1,lQ h.2.2.1 hb.size,(hb.block b h.2.2.1).trans h.2.2.2.1,h.2.2.2.2⟩⟩
theorem At3Inv.host{h:Np.Hist}{Zt n1 n4:Nat}{w2:World}{A:List Nat}{e:Nat->Value}{u u':World}(k:At3Inv h Zt n1 n4 w2 A e u)(_:2∉A)(hb:Below u.heap.size u u'){A5:Option Addr}{c5:Nat}(ho:bl gb 3 64 u.heap.size u.heap.size u' (.slice A5 n1 c5) h.hosts):At3Inv h Zt n1 n4 w2 (2::A) (uy e 2 (.slice A5 n1 c5)) u':=by
 have k2:=k.keep hb;refine⟨k2.below,k2.lt,λ_=>⟨A5,c5,rfl,ho.weakR k.lt (λ_ _ h=>h)⟩,λh7=>k2.hints (by simpa using h7),λh9=>?_⟩;obtain⟨b,h1,h2,h3,h4,h5,h6⟩:=k2.box (by simpa using h9);obtain⟨b',h1',_,h3',_⟩:=k.box (by simpa using h9);rw[h1] at h1'
 cases h1'
 exact⟨b,h1,h2,h3,h4,(λ_=>λe=>by have:=(ho.ltR _ e).1; omega),λh7=>h6 (by simpa using h7)⟩
theorem At3Inv.hint{h:Np.Hist}{Zt n1 n4:Nat}{w2:World}{A:List Nat}{e:Nat->Value}{u u':World}(k:At3Inv h Zt n1 n4 w2 A e u)(_:7∉A)(hb:Below u.heap.size u u'){A6:Option Addr}{c6:Nat}(ho:bl gJ 1 3 u.heap.size u.heap.size u' (.slice A6 n4 c6) h.hints):At3Inv h Zt n1 n4 w2 (7::A) (uy e 7 (.slice A6 n4 c6)) u':=by
 have k2:=k.keep hb;refine⟨k2.below,k2.lt,λh2=>k2.hosts (by simpa using h2),λ_=>⟨A6,c6,rfl,ho.weakR k.lt (λ_ _ h=>h)⟩,λh9=>?_⟩;obtain⟨b,h1,h2,h3,h4,h5,h6⟩:=k2.box (by simpa using h9);obtain⟨b',h1',_,h3',_⟩:=k.box (by simpa using h9);rw[h1] at h1'
 cases h1'
 exact⟨b,h1,h2,h3,h4,λh2=>h5 (by simpa using h2),(λ_=>λe=>by have:=(ho.ltR _ e).1; omega)⟩
theorem At3Inv.made{h:Np.Hist}{Zt n1 n4:Nat}{w2:World}{A:List Nat}{e:Nat->Value}{u:World}(k:At3Inv h Zt n1 n4 w2 A e u):At3Inv h Zt n1 n4 w2 (9::A) (uy e 9 (.pointer (some ⟨u.heap.size,0,none⟩))) (u.alloc (.cells #[.slice none 0 0,.slice none 0 0,.string ⟨#[]⟩,.int .i64 0,.int .i64 0,.slice none 0 0,.slice none 0 0] 34)):=by
 have hb:Below u.heap.size u (u.alloc (.cells #[.slice none 0 0,.slice none 0 0,.string ⟨#[]⟩,.int .i64 0,.int .i64 0,.slice none 0 0,.slice none 0 0] 34)):=(vQ _ _).alloc (bQ _) _;have k2:=k.keep hb;refine⟨k2.below,k2.lt,λh2=>k2.hosts (by simpa using h2),λh7=>k2.hints (by simpa using h7),λ_=>⟨u.heap.size,rfl,k.lt,by simp,heap_alloc_new _ _,λh2=>?_,λh7=>?_⟩⟩
 ·obtain⟨A5,c5,h3,h4⟩:=k.hosts (by simpa using h2);exact λe=>by have:=(h4.ltR _ e).2; omega
 ·obtain⟨A6,c6,h3,h4⟩:=k.hints (by simpa using h7);exact λe=>by have:=(h4.ltR _ e).2; omega
def AtM(b _B:Nat)(zv:Value)(S:Nat->Prop)(k:Nat):Prop:=k=b\/zv.ownBlock=some k\/¬ S k
theorem aDY{w:World}{B:Nat}{L:List (CV×Np.Copy)}(h:∀ x∈L,CVOf w B x.1 x.2)(t:Int):(Np.ki (L.map (·.2)) t).map Np.im=(L.filter λx=>decide (x.1.frm<=t)&&decide (t<x.1.til)).map λx:CV×Np.Copy=>Np.im x.2:=by
 induction L with
 | nil=>rfl
 | cons x L ih=>
  have hx:=h x (by simp);have ih:=ih (λy hy=>h y (mQ _ hy));unfold Np.ki at ih |-;rw[List.map_cons,List.filter_cons,List.filter_cons,hx.frm,hx.til];split
  ·rw[List.map_cons,List.map_cons,ih]
  ·exact ih
def AtZ(zb:Nat)(zv:Value)(k:Nat):Prop:=k<=zb\/zv.ownBlock=some k
theorem Tryz.infoSignedAt:(prog.info? 68).map (λi=>(i.zero,i.size,i.bytes))=some (some (.agg #[.string ⟨#[]⟩,.int .i64 0,.int .i64 0,.slice none 0 0,.slice none 0 0]),5,80):=by kernel_rfl
def AtI(w6:World)(b:Nat)(wc:Value->Array Value)(pre:List (CV×Np.Copy))(S:Nat->Prop)(W:World):Prop:=
 ∃ zv,S b/\(∀ g,zv.ownBlock=some g->S g)/\(∀ k,S k->k=b\/w6.heap.size<=k)/\W.heap[b]?=some (.cells (wc zv) 34)/\bU jm 3 60 w6.heap.size (AtM b w6.heap.size zv S) W zv (pre.map λx=>Np.im x.2)/\RdStep (λk=>k=b) w6 W
theorem M7(w6:World)(b:Nat)(wc:Value->Array Value)(_hb:b<w6.heap.size):fE w6.heap.size (AtI w6 b wc):=by
 rintro pre S W W' ⟨zv,h1,h2,h3,h4,h5,h6⟩ aq;refine⟨zv,h1,h2,h3,(aq.keep b (eQ.1 h4).1 (.inr h1)).trans h4,h5.leaves fV nR fW ⟨aq.os,aq.tape,aq.output,aq.size,λi hi hm=>⟨hm,aq.keep i hi ?_⟩⟩ (λg hg=>⟨aq.keep g (h5.lt g hg).2 (.inr (h2 g hg)),.inr (.inl hg)⟩),⟨aq.os.trans h6.os,aq.tape.trans h6.tape,aq.output.trans h6.output,yQ h6.size aq.size,λk hk JE=>(aq.keep k (lQ hk h6.size) (.inl hk)).trans (h6.keep k hk JE)⟩⟩;exact .inr (Classical.byContradiction λhs=>hm (.inr (.inr hs)))
theorem Vl{w6:World}{b:Nat}{wc:Value->Array Value}{pre:List (CV×Np.Copy)}{S:Nat->Prop}{W W':World}(h:AtI w6 b wc pre S W)(hb:Below W.heap.size W W'):AtI w6 b wc pre S W':=by
 obtain⟨zv,h1,h2,h3,h4,h5,h6⟩:=h;exact⟨zv,h1,h2,h3,(hb.block b (eQ.1 h4).1).trans h4,h5.keep fV nR fW hb,h6.then_below hb⟩
theorem Vo(e:List Value)(h:Np.Hist)(hf:Np.sR h)(hq:h.hosts.length<=100000/\h.hints.length<=100000/\h.anchor.data.length<=100000)(JS:∀ c∈h.copies,∀ x∈c.zone.sets,x.set.data.length<=100000/\x.sigs.length<=100000)(t:Int)(w:World)(hR:iS w w.heap.size)(hh:bA w w.heap.size e h) :
 Calls prog 12 #[.agg e.toArray,.int .i64 t] w λe w'=>∃ e',e = .returned (.tuple #[.agg e'.toArray,.int .i64 (Np.atE h t)])/\CO rG 0 w.heap.size w' e' (Np.atW h t)/\Below w.heap.size w w':=by
 have pd:=jq hh;obtain⟨hv,cv,s,dv,dh,rfl,aX,eW,h3,h4,h5,h6⟩:=hh;obtain⟨ty,dK⟩:∃ ty,h.anchor.type=ty:=⟨_,rfl⟩;obtain⟨life,pF⟩:∃ life,h.anchor.life=life:=⟨_,rfl⟩;obtain⟨drift,tI⟩:∃ drift,h.drift=drift:=⟨_,rfl⟩;obtain⟨stop,gR⟩:∃ stop,h.stop=stop:=⟨_,rfl⟩;have H3:=jq h3;have H4:=jq h4;have H5:=jq h5;have H6:=jq h6;have HS:=jq (And.intro aX eW);have en:=jq hf;have cI:=jq gR;have gY:=jq (And.intro dK pF);obtain⟨A1,c1,rfl,_,_⟩:=ah h3;obtain⟨A2,c2,rfl,_,_⟩:=ah h4;obtain⟨A3,c3,rfl,_,_⟩:=ah h5;obtain⟨A4,c4,rfl,_,_⟩:=ah h6;clear h3 h4 h5 h6 aX eW hf;obtain⟨n1,aO⟩:∃ n,h.hosts.length=n:=⟨_,rfl⟩;obtain⟨n2,be⟩:∃ n,h.copies.length=n:=⟨_,rfl⟩;obtain⟨n3,cP⟩:∃ n,h.anchor.data.length=n:=⟨_,rfl⟩;obtain⟨n4,cW⟩:∃ n,h.hints.length=n:=⟨_,rfl⟩;rw[aO] at H3;rw[be] at H4;rw[cP] at H5;rw[cW] at H6;rw[aO,be,cP,cW,dK,pF,tI,gR] at pd |-;have iB:=jq be;have fB:=jq aO;have rt:=jq cW;have ta:=jq cP;rw[aO,cP,cW] at hq;clear aO be cP cW dK pF tI gR;obtain⟨r,hr⟩:∃ r,Np.yes (Np.VHist h)=r:=⟨_,rfl⟩;have lO:=jq hr;clear hr;obtain⟨X,hX⟩:∃ X,w.heap.size=X:=⟨_,rfl⟩;obtain⟨W1,ai⟩:∃ W1,((w.alloc (.cells #[.slice A1 n1 c1,.slice A2 n2 c2,.string s,.int .i64 ty,.int .i64 life,.slice A3 n3 c3,.slice A4 n4 c4,.int .i64 drift,.int .i64 stop] 29)).alloc (.cells #[.int .i64 t] 3)).alloc (.cells #[.slice none 0 0,.slice none 0 0,.string ⟨#[]⟩,.int .i64 0,.int .i64 0,.slice none 0 0,.slice none 0 0] 34)=W1:=⟨_,rfl⟩;have aG:Below w.heap.size w W1:=by rw[<-ai]; exact (((vQ _ _).alloc (bQ _) _).alloc (by simp <;> omega) _).alloc (by simp <;> omega) _
 have jA:W1.heap.size=X+3:=by rw[<-ai,<-hX]; simp
 have k0:W1.cell? ⟨X,0,none⟩=some (.slice A1 n1 c1):=by rw[<-ai,<-hX]; simp[go_sem]
 have k1:W1.cell? ⟨X,1,none⟩=some (.slice A2 n2 c2):=by rw[<-ai,<-hX]; simp[go_sem]
 have k2:W1.cell? ⟨X,2,none⟩=some (.string s):=by rw[<-ai,<-hX]; simp[go_sem]
 have k3:W1.cell? ⟨X,3,none⟩=some (.int .i64 ty):=by rw[<-ai,<-hX]; simp[go_sem]
 have k4:W1.cell? ⟨X,4,none⟩=some (.int .i64 life):=by rw[<-ai,<-hX]; simp[go_sem]
 have k5:W1.cell? ⟨X,5,none⟩=some (.slice A3 n3 c3):=by rw[<-ai,<-hX]; simp[go_sem]
 have k6:W1.cell? ⟨X,6,none⟩=some (.slice A4 n4 c4):=by rw[<-ai,<-hX]; simp[go_sem]
 have k7:W1.cell? ⟨X,7,none⟩=some (.int .i64 drift):=by rw[<-ai,<-hX]; simp[go_sem]
 have k8:W1.cell? ⟨X,8,none⟩=some (.int .i64 stop):=by rw[<-ai,<-hX]; simp[go_sem]
 have kt:W1.cell? ⟨X+1,0,none⟩=some (.int .i64 t):=by rw[<-ai,<-hX]; simp[go_sem]
 have aZ:W1.heap[X+1+1]?=some (.cells #[.slice none 0 0,.slice none 0 0,.string ⟨#[]⟩,.int .i64 0,.int .i64 0,.slice none 0 0,.slice none 0 0] 34):=by
  rw[<-ai,<-hX]
  have:=heap_alloc_new ((w.alloc (.cells #[.slice A1 n1 c1,.slice A2 n2 c2,.string s,.int .i64 ty,.int .i64 life,.slice A3 n3 c3,.slice A4 n4 c4,.int .i64 drift,.int .i64 stop] 29)).alloc (.cells #[.int .i64 t] 3)) (.cells #[.slice none 0 0,.slice none 0 0,.string ⟨#[]⟩,.int .i64 0,.int .i64 0,.slice none 0 0,.slice none 0 0] 34)
  simpa using this
 have f9:=jq hR;rw[hX] at aG H3 H4 H5 H6 pd f9 |-;have aB:=jq aG;clear aG hR;refine (callsIn_wide (n:=0)).1 ?_;refine callsIn_of_wp_marks func12 rfl trivial ?_ rfl;simp only[ntmps12,List.size_toArray,List.length_cons,List.length_nil,Nat.reduceAdd,Nat.reduceSub,Array.replicate_succ,Array.replicate_zero,List.push_toArray,List.append_toArray,List.nil_append,List.cons_append];gi_wp2_with fail;refine⟨trivial,rfl,?_⟩;refine (callsIn_wide.2 (Er _ h en.out W1 ((f9.out.keep aB.out).more (by omega)) (de _ _ _ _ _ (da _ _ _ _ _ pd.out aB.out) (by omega)))).mono ?_;rw[lO.out];rintro e w2 ⟨rfl,ab⟩;have aM:=ab.size;have m0:=(cl ab (by omega)).trans k0;have m1:=(cl ab (by omega)).trans k1;have m2:=(cl ab (by omega)).trans k2;have m3:=(cl ab (by omega)).trans k3;have m4:=(cl ab (by omega)).trans k4;have m5:=(cl ab (by omega)).trans k5;have m6:=(cl ab (by omega)).trans k6;have m7:=(cl ab (by omega)).trans k7;have m8:=(cl ab (by omega)).trans k8;have mt:=(cl ab (by omega)).trans kt;have bk:=jq ((ab.block (X+1+1) (by omega)).trans aZ);have al:=jq (aB.out.trans (ab.mono (by omega)));clear ab ai hX k0 k1 k2 k3 k4 k5 k6 k7 k8 kt aZ
 cases r with
 | false=>
  have HN:Hid (¬ Np.lG h t):=jq (λh=>by have:=Np.bM h.1; rw[lO.out] at this; cases this);have y0:w2.cell? ⟨X+1+1,0,none⟩=some (.slice none 0 0):=by simp[World.cell?,bk.out]
  have z0:w2.frozen? ⟨X+1+1,0,none⟩=false:=by simp[World.frozen?,bk.out]
  have y1:w2.cell? ⟨X+1+1,1,none⟩=some (.slice none 0 0):=by simp[World.cell?,bk.out]
  have z1:w2.frozen? ⟨X+1+1,1,none⟩=false:=by simp[World.frozen?,bk.out]
  have y2:w2.cell? ⟨X+1+1,2,none⟩=some (.string ⟨#[]⟩):=by simp[World.cell?,bk.out]
  have z2:w2.frozen? ⟨X+1+1,2,none⟩=false:=by simp[World.frozen?,bk.out]
  have y3:w2.cell? ⟨X+1+1,3,none⟩=some (.int .i64 0):=by simp[World.cell?,bk.out]
  have z3:w2.frozen? ⟨X+1+1,3,none⟩=false:=by simp[World.frozen?,bk.out]
  have y4:w2.cell? ⟨X+1+1,4,none⟩=some (.int .i64 0):=by simp[World.cell?,bk.out]
  have z4:w2.frozen? ⟨X+1+1,4,none⟩=false:=by simp[World.frozen?,bk.out]
  have y5:w2.cell? ⟨X+1+1,5,none⟩=some (.slice none 0 0):=by simp[World.cell?,bk.out]
  have z5:w2.frozen? ⟨X+1+1,5,none⟩=false:=by simp[World.frozen?,bk.out]
  have y6:w2.cell? ⟨X+1+1,6,none⟩=some (.slice none 0 0):=by simp[World.cell?,bk.out]
  have z6:w2.frozen? ⟨X+1+1,6,none⟩=false:=by simp[World.frozen?,bk.out]
  gi_wp2_with fail;obtain⟨W,hW⟩:∃ W,(((((((w2.setCell ⟨X+1+1,0,none⟩ (.slice none 0 0)).setCell ⟨X+1+1,1,none⟩ (.slice none 0 0)).setCell ⟨X+1+1,2,none⟩ (.string ⟨#[]⟩)).setCell ⟨X+1+1,3,none⟩ (.int .i64 0)).setCell ⟨X+1+1,4,none⟩ (.int .i64 0)).setCell ⟨X+1+1,5,none⟩ (.slice none 0 0)).setCell ⟨X+1+1,6,none⟩ (.slice none 0 0))=W:=⟨_,rfl⟩;have ra:Hid (Below X w W):=jq (by rw[<-hW]; exact (((((((al.out.setCell (p:=⟨X+1+1,0,none⟩) (by dsimp only; omega) _).setCell (p:=⟨X+1+1,1,none⟩) (by dsimp only; omega) _).setCell (p:=⟨X+1+1,2,none⟩) (by dsimp only; omega) _).setCell (p:=⟨X+1+1,3,none⟩) (by dsimp only; omega) _).setCell (p:=⟨X+1+1,4,none⟩) (by dsimp only; omega) _).setCell (p:=⟨X+1+1,5,none⟩) (by dsimp only; omega) _).setCell (p:=⟨X+1+1,6,none⟩) (by dsimp only; omega) _));have e0:W.cell? ⟨X+1+1,0,none⟩=some (.slice none 0 0):=by rw[<-hW]; simp[go_sem,y0]
  have e1:W.cell? ⟨X+1+1,1,none⟩=some (.slice none 0 0):=by rw[<-hW]; simp[go_sem,y1]
  have e2:W.cell? ⟨X+1+1,2,none⟩=some (.string ⟨#[]⟩):=by rw[<-hW]; simp[go_sem,y2]
  have e3:W.cell? ⟨X+1+1,3,none⟩=some (.int .i64 0):=by rw[<-hW]; simp[go_sem,y3]
  have e4:W.cell? ⟨X+1+1,4,none⟩=some (.int .i64 0):=by rw[<-hW]; simp[go_sem,y4]
  have e5:W.cell? ⟨X+1+1,5,none⟩=some (.slice none 0 0):=by rw[<-hW]; simp[go_sem,y5]
  have e6:W.cell? ⟨X+1+1,6,none⟩=some (.slice none 0 0):=by rw[<-hW]; simp[go_sem,y6]
  rw[hW];refine nl (v:=.tuple #[.agg #[.slice none 0 0,.slice none 0 0,.string ⟨#[]⟩,.int .i64 0,.int .i64 0,.slice none 0 0,.slice none 0 0],.int .i64 1]) (by simp[results,results12,go_sem,e0,e1,e2,e3,e4,e5,e6]) ⟨[.slice none 0 0,.slice none 0 0,.string ⟨#[]⟩,.int .i64 0,.int .i64 0,.slice none 0 0,.slice none 0 0],Fq rfl (by rw[(Np.vE HN.out).2]),by rw[(Np.vE HN.out).1]; exact λ_ _=>KG _ _,ra.out⟩
 | true=>
  have HV:Hid (Np.VHist h):=jq (Np.fz.1 lO.out);by_cases Cg:t<0
  ·have ZH:decide (t<0)=true:=uQ Cg;have HN:Hid (¬ Np.lG h t):=jq (λh=>by have:=h.2.1; omega);have y0:w2.cell? ⟨X+1+1,0,none⟩=some (.slice none 0 0):=by simp[World.cell?,bk.out]
   have z0:w2.frozen? ⟨X+1+1,0,none⟩=false:=by simp[World.frozen?,bk.out]
   have y1:w2.cell? ⟨X+1+1,1,none⟩=some (.slice none 0 0):=by simp[World.cell?,bk.out]
   have z1:w2.frozen? ⟨X+1+1,1,none⟩=false:=by simp[World.frozen?,bk.out]
   have y2:w2.cell? ⟨X+1+1,2,none⟩=some (.string ⟨#[]⟩):=by simp[World.cell?,bk.out]
   have z2:w2.frozen? ⟨X+1+1,2,none⟩=false:=by simp[World.frozen?,bk.out]
   have y3:w2.cell? ⟨X+1+1,3,none⟩=some (.int .i64 0):=by simp[World.cell?,bk.out]
   have z3:w2.frozen? ⟨X+1+1,3,none⟩=false:=by simp[World.frozen?,bk.out]
   have y4:w2.cell? ⟨X+1+1,4,none⟩=some (.int .i64 0):=by simp[World.cell?,bk.out]
   have z4:w2.frozen? ⟨X+1+1,4,none⟩=false:=by simp[World.frozen?,bk.out]
   have y5:w2.cell? ⟨X+1+1,5,none⟩=some (.slice none 0 0):=by simp[World.cell?,bk.out]
   have z5:w2.frozen? ⟨X+1+1,5,none⟩=false:=by simp[World.frozen?,bk.out]
   have y6:w2.cell? ⟨X+1+1,6,none⟩=some (.slice none 0 0):=by simp[World.cell?,bk.out]
   have z6:w2.frozen? ⟨X+1+1,6,none⟩=false:=by simp[World.frozen?,bk.out]
   clear Cg;gi_wp2_with fail;obtain⟨W,hW⟩:∃ W,(((((((w2.setCell ⟨X+1+1,0,none⟩ (.slice none 0 0)).setCell ⟨X+1+1,1,none⟩ (.slice none 0 0)).setCell ⟨X+1+1,2,none⟩ (.string ⟨#[]⟩)).setCell ⟨X+1+1,3,none⟩ (.int .i64 0)).setCell ⟨X+1+1,4,none⟩ (.int .i64 0)).setCell ⟨X+1+1,5,none⟩ (.slice none 0 0)).setCell ⟨X+1+1,6,none⟩ (.slice none 0 0))=W:=⟨_,rfl⟩;have ra:Hid (Below X w W):=jq (by rw[<-hW]; exact (((((((al.out.setCell (p:=⟨X+1+1,0,none⟩) (by dsimp only; omega) _).setCell (p:=⟨X+1+1,1,none⟩) (by dsimp only; omega) _).setCell (p:=⟨X+1+1,2,none⟩) (by dsimp only; omega) _).setCell (p:=⟨X+1+1,3,none⟩) (by dsimp only; omega) _).setCell (p:=⟨X+1+1,4,none⟩) (by dsimp only; omega) _).setCell (p:=⟨X+1+1,5,none⟩) (by dsimp only; omega) _).setCell (p:=⟨X+1+1,6,none⟩) (by dsimp only; omega) _));have e0:W.cell? ⟨X+1+1,0,none⟩=some (.slice none 0 0):=by rw[<-hW]; simp[go_sem,y0]
   have e1:W.cell? ⟨X+1+1,1,none⟩=some (.slice none 0 0):=by rw[<-hW]; simp[go_sem,y1]
   have e2:W.cell? ⟨X+1+1,2,none⟩=some (.string ⟨#[]⟩):=by rw[<-hW]; simp[go_sem,y2]
   have e3:W.cell? ⟨X+1+1,3,none⟩=some (.int .i64 0):=by rw[<-hW]; simp[go_sem,y3]
   have e4:W.cell? ⟨X+1+1,4,none⟩=some (.int .i64 0):=by rw[<-hW]; simp[go_sem,y4]
   have e5:W.cell? ⟨X+1+1,5,none⟩=some (.slice none 0 0):=by rw[<-hW]; simp[go_sem,y5]
   have e6:W.cell? ⟨X+1+1,6,none⟩=some (.slice none 0 0):=by rw[<-hW]; simp[go_sem,y6]
   rw[hW];refine nl (v:=.tuple #[.agg #[.slice none 0 0,.slice none 0 0,.string ⟨#[]⟩,.int .i64 0,.int .i64 0,.slice none 0 0,.slice none 0 0],.int .i64 1]) (by simp[results,results12,go_sem,e0,e1,e2,e3,e4,e5,e6]) ⟨[.slice none 0 0,.slice none 0 0,.string ⟨#[]⟩,.int .i64 0,.int .i64 0,.slice none 0 0,.slice none 0 0],Fq rfl (by rw[(Np.vE HN.out).2]),by rw[(Np.vE HN.out).1]; exact λ_ _=>KG _ _,ra.out⟩
  have ZH:decide (t<0)=false:=tQ Cg;by_cases EN:stop<=t
  ·have ZI:decide (stop<=t)=true:=uQ EN;have HN:Hid (¬ Np.lG h t):=jq (λh=>by have:=h.2.2; rw[cI.out] at this; omega);have y0:w2.cell? ⟨X+1+1,0,none⟩=some (.slice none 0 0):=by simp[World.cell?,bk.out]
   have z0:w2.frozen? ⟨X+1+1,0,none⟩=false:=by simp[World.frozen?,bk.out]
   have y1:w2.cell? ⟨X+1+1,1,none⟩=some (.slice none 0 0):=by simp[World.cell?,bk.out]
   have z1:w2.frozen? ⟨X+1+1,1,none⟩=false:=by simp[World.frozen?,bk.out]
   have y2:w2.cell? ⟨X+1+1,2,none⟩=some (.string ⟨#[]⟩):=by simp[World.cell?,bk.out]
   have z2:w2.frozen? ⟨X+1+1,2,none⟩=false:=by simp[World.frozen?,bk.out]
   have y3:w2.cell? ⟨X+1+1,3,none⟩=some (.int .i64 0):=by simp[World.cell?,bk.out]
   have z3:w2.frozen? ⟨X+1+1,3,none⟩=false:=by simp[World.frozen?,bk.out]
   have y4:w2.cell? ⟨X+1+1,4,none⟩=some (.int .i64 0):=by simp[World.cell?,bk.out]
   have z4:w2.frozen? ⟨X+1+1,4,none⟩=false:=by simp[World.frozen?,bk.out]
   have y5:w2.cell? ⟨X+1+1,5,none⟩=some (.slice none 0 0):=by simp[World.cell?,bk.out]
   have z5:w2.frozen? ⟨X+1+1,5,none⟩=false:=by simp[World.frozen?,bk.out]
   have y6:w2.cell? ⟨X+1+1,6,none⟩=some (.slice none 0 0):=by simp[World.cell?,bk.out]
   have z6:w2.frozen? ⟨X+1+1,6,none⟩=false:=by simp[World.frozen?,bk.out]
   clear Cg EN;gi_wp2_with fail;obtain⟨W,hW⟩:∃ W,(((((((w2.setCell ⟨X+1+1,0,none⟩ (.slice none 0 0)).setCell ⟨X+1+1,1,none⟩ (.slice none 0 0)).setCell ⟨X+1+1,2,none⟩ (.string ⟨#[]⟩)).setCell ⟨X+1+1,3,none⟩ (.int .i64 0)).setCell ⟨X+1+1,4,none⟩ (.int .i64 0)).setCell ⟨X+1+1,5,none⟩ (.slice none 0 0)).setCell ⟨X+1+1,6,none⟩ (.slice none 0 0))=W:=⟨_,rfl⟩;have ra:Hid (Below X w W):=jq (by rw[<-hW]; exact (((((((al.out.setCell (p:=⟨X+1+1,0,none⟩) (by dsimp only; omega) _).setCell (p:=⟨X+1+1,1,none⟩) (by dsimp only; omega) _).setCell (p:=⟨X+1+1,2,none⟩) (by dsimp only; omega) _).setCell (p:=⟨X+1+1,3,none⟩) (by dsimp only; omega) _).setCell (p:=⟨X+1+1,4,none⟩) (by dsimp only; omega) _).setCell (p:=⟨X+1+1,5,none⟩) (by dsimp only; omega) _).setCell (p:=⟨X+1+1,6,none⟩) (by dsimp only; omega) _));have e0:W.cell? ⟨X+1+1,0,none⟩=some (.slice none 0 0):=by rw[<-hW]; simp[go_sem,y0]
   have e1:W.cell? ⟨X+1+1,1,none⟩=some (.slice none 0 0):=by rw[<-hW]; simp[go_sem,y1]
   have e2:W.cell? ⟨X+1+1,2,none⟩=some (.string ⟨#[]⟩):=by rw[<-hW]; simp[go_sem,y2]
   have e3:W.cell? ⟨X+1+1,3,none⟩=some (.int .i64 0):=by rw[<-hW]; simp[go_sem,y3]
   have e4:W.cell? ⟨X+1+1,4,none⟩=some (.int .i64 0):=by rw[<-hW]; simp[go_sem,y4]
   have e5:W.cell? ⟨X+1+1,5,none⟩=some (.slice none 0 0):=by rw[<-hW]; simp[go_sem,y5]
   have e6:W.cell? ⟨X+1+1,6,none⟩=some (.slice none 0 0):=by rw[<-hW]; simp[go_sem,y6]
   rw[hW];refine nl (v:=.tuple #[.agg #[.slice none 0 0,.slice none 0 0,.string ⟨#[]⟩,.int .i64 0,.int .i64 0,.slice none 0 0,.slice none 0 0],.int .i64 1]) (by simp[results,results12,go_sem,e0,e1,e2,e3,e4,e5,e6]) ⟨[.slice none 0 0,.slice none 0 0,.string ⟨#[]⟩,.int .i64 0,.int .i64 0,.slice none 0 0,.slice none 0 0],Fq rfl (by rw[(Np.vE HN.out).2]),by rw[(Np.vE HN.out).1]; exact λ_ _=>KG _ _,ra.out⟩
  have ZI:decide (stop<=t)=false:=tQ EN;have HK:Hid (Np.lG h t):=jq ⟨HV.out,by omega,by rw[cI.out]; omega⟩;clear Cg EN;gi_wp2_with fail;obtain⟨Zt,Ok⟩:∃ Zt,w2.heap.size=Zt:=⟨_,rfl⟩;have LE:Hid (Below X w w2):=jq al.out;have UW:Hid (Zt<=w2.heap.size):=jq (Nat.le_of_eq Ok.symm);have Tl:Hid (Below Zt w2 w2):=jq (vQ _ _);have XH:X+3<=Zt:=by omega
  refine zr λa0 bW=>?_;have lH:=jq bW;have pY:=jq (show a0.eval (.tmp 2) = .pointer (some ⟨X,0,none⟩) by rw[bW]; rfl);have HM:=jq (show a0.tmps.size=74 by rw[bW]; rfl);clear bW;refine wpIn_mono (Q:=Lk a0 X A1 n1 c1 s ty life A3 n3 c3 A4 n4 c4 h Zt w2) ?_ ?_
  ·refine wpIn_wide.2 (wp_region_any (by kernel_rfl) ?_);refine aOX (Inv:=At3Inv h Zt n1 n4 w2) (val:=jS X A1 n1 c1 s ty life A3 n3 c3 A4 n4 c4) (abQ (ord:=[0,1,3,4,5,6,8,2,7,9]) (T:=[2,7,9]) (p0:=10) (m:=74) (dep:=mB) (dst:=tp) (by kernel_rfl)) HM.out
    (λe p hp=>by simp only[List.mem_cons,Qh,or_false] at hp; rcases hp with rfl | rfl | rfl <;> rfl) (M4 X A1 n1 c1 s ty life A3 n3 c3 A4 n4 c4) ?_ ?_ ?_ (e0:=λ_=>undef) (show At3Inv h Zt n1 n4 w2 [] (λ_=>undef) w2.drew from ⟨Tl.out.drew,UW.out,(λh=>by cases h),(λh=>by cases h),(λh=>by cases h)⟩)
   ·intro A e u hI i hi Jy hd o ho a' hb hx;have hZ:=hI.lt;replace m0:=(cl hI.below (by omega)).trans m0;replace m1:=(cl hI.below (by omega)).trans m1;replace m2:=(cl hI.below (by omega)).trans m2;replace m3:=(cl hI.below (by omega)).trans m3;replace m4:=(cl hI.below (by omega)).trans m4;replace m5:=(cl hI.below (by omega)).trans m5;replace m6:=(cl hI.below (by omega)).trans m6;replace m7:=(cl hI.below (by omega)).trans m7;replace m8:=(cl hI.below (by omega)).trans m8;have k2':=(bn hb (j:=2) (by decide) (by decide)).trans pY.out;simp[Act.eval] at k2';by_cases h8:i=8
    ·subst h8;obtain⟨A5,c5,h5,_⟩:=hI.hosts (hd 2 (by simp[mB]));obtain⟨A6,c6,h6,_⟩:=hI.hints (hd 7 (by simp[mB]))
     cases ho
     simp[Act.eval,Region.binds,jS,tp] at hx;refine .inl ⟨by simp[Region.wanted],λw' hw'=>?_⟩;subst hw';simp[Oper.quietAt,Oper.quietUpon,execOp,go_sem,jS,hx,h5,h6]
    simp only[List.mem_cons,Qh,or_false] at hi;rcases hi with rfl | rfl | rfl | rfl | rfl | rfl | rfl | rfl | rfl | rfl
    all_goals first
     | (exfalso; simp at Jy; done)
     | exact absurd rfl h8
     | (cases ho
        try simp[Act.eval,Region.binds,jS,tp] at hx
        refine .inl ⟨by simp[Region.wanted],λw' hw'=>?_⟩;subst hw';simp[Oper.quietAt,Oper.quietUpon,execOp,go_sem,jS,k2',m0,m2,m3,m4,m5,m6,hx])
   ·intro A e u hI p hp r9 o ho a' hb hx K hK;simp only[List.mem_cons,Qh,or_false] at hp;rcases hp with rfl | rfl | rfl
    ·cases ho
     simp[Act.eval,Region.binds,jS,tp,mB] at hx;simp only[wpOp];simp[Region.wanted];refine .inl ?_;simp[Oper.wp,go_sem,hx];refine (VJ _ h.hosts (by have:=fB.out; omega) u ((H3.out.keep fw (LE.out.trans (hI.below.mono (by omega)))).more kP (by have:=hI.lt; omega))).mono ?_;rintro e' u' ⟨vv,rfl,ho,hb'⟩;obtain⟨A5,c5,rfl⟩:=ho.formL;rw[fB.out] at ho |-;dsimp only;exact hK _ _ (hI.host r9 hb' ho)
    ·cases ho
     simp[Act.eval,Region.binds,jS,tp,mB] at hx;simp only[wpOp];simp[Region.wanted];refine .inl ?_;simp[Oper.wp,go_sem,hx];refine (VK _ h.hints (by have:=rt.out; omega) u ((H6.out.keep kR (LE.out.trans (hI.below.mono (by omega)))).more sI (by have:=hI.lt; omega))).mono ?_;rintro e' u' ⟨vv,rfl,ho,hb'⟩;obtain⟨A6,c6,rfl⟩:=ho.formL;rw[rt.out] at ho |-;dsimp only;exact hK _ _ (hI.hint r9 hb' ho)
    ·cases ho
     simp only[wpOp];simp[Region.wanted];refine .inl ?_;simp[Oper.wp,execOp,go_sem];exact hK _ _ hI.made
   ·intro A e u hI hA o ho a' hv hb ha K hK;obtain⟨A5,c5,h5,F2⟩:=hI.hosts (hA 2 (by simp));obtain⟨A6,c6,h6,F7⟩:=hI.hints (hA 7 (by simp));obtain⟨b,h9,ap,ab,F9,N2,N7⟩:=hI.box (hA 9 (by simp));have N2:=N2 (hA 2 (by simp));have N7:=N7 (hA 7 (by simp));rw[h5] at F2 N2;rw[h6] at F7 N7;have av8:=hv 8 (by simp);have av9:=hv 9 (by simp);simp[Act.eval,jS,tp] at av8 av9
    cases ho
    simp only[wpOp];simp[Region.wanted];refine .inl ?_;have y0:u.cell? ⟨b,0,none⟩=some (.slice none 0 0):=by simp[World.cell?,F9]
    have z0:u.frozen? ⟨b,0,none⟩=false:=by simp[World.frozen?,F9]
    have y1:u.cell? ⟨b,1,none⟩=some (.slice none 0 0):=by simp[World.cell?,F9]
    have z1:u.frozen? ⟨b,1,none⟩=false:=by simp[World.frozen?,F9]
    have y2:u.cell? ⟨b,2,none⟩=some (.string ⟨#[]⟩):=by simp[World.cell?,F9]
    have z2:u.frozen? ⟨b,2,none⟩=false:=by simp[World.frozen?,F9]
    have y3:u.cell? ⟨b,3,none⟩=some (.int .i64 0):=by simp[World.cell?,F9]
    have z3:u.frozen? ⟨b,3,none⟩=false:=by simp[World.frozen?,F9]
    have y4:u.cell? ⟨b,4,none⟩=some (.int .i64 0):=by simp[World.cell?,F9]
    have z4:u.frozen? ⟨b,4,none⟩=false:=by simp[World.frozen?,F9]
    have y5:u.cell? ⟨b,5,none⟩=some (.slice none 0 0):=by simp[World.cell?,F9]
    have z5:u.frozen? ⟨b,5,none⟩=false:=by simp[World.frozen?,F9]
    have y6:u.cell? ⟨b,6,none⟩=some (.slice none 0 0):=by simp[World.cell?,F9]
    have z6:u.frozen? ⟨b,6,none⟩=false:=by simp[World.frozen?,F9]
    rw[h5,h6] at av8;rw[h9] at av9;simp[Oper.wp,execOp,go_sem,av8,av9,y0,z0,y1,z1,y2,z2,y3,z3,y4,z4,y5,z5,y6,z6];refine hK _ _ ?_;obtain⟨W',hW'⟩:∃ W',W'=(((((((u.setCell ⟨b,0,none⟩ (.slice A5 n1 c5)).setCell ⟨b,1,none⟩ (.slice none 0 0)).setCell ⟨b,2,none⟩ (.string s)).setCell ⟨b,3,none⟩ (.int .i64 ty)).setCell ⟨b,4,none⟩ (.int .i64 life)).setCell ⟨b,5,none⟩ (.slice A3 n3 c3)).setCell ⟨b,6,none⟩ (.slice A6 n4 c6)):=⟨_,rfl⟩;rw[<-hW'];have yC:∀ k,k≠b->W'.heap[k]?=u.heap[k]?:=λk hk=>by rw[hW']; exact ((wQ _ _ _ k hk).trans ((wQ _ _ _ k hk).trans ((wQ _ _ _ k hk).trans ((wQ _ _ _ k hk).trans ((wQ _ _ _ k hk).trans ((wQ _ _ _ k hk).trans (wQ _ _ _ k hk)))))))
    have EX:W'.heap.size=u.heap.size:=by rw[hW']; simp
    have tY:W'.heap[b]?=some (.cells #[.slice A5 n1 c5,.slice none 0 0,.string s,.int .i64 ty,.int .i64 life,.slice A3 n3 c3,.slice A6 n4 c6] 34):=by rw[hW']; simp[World.setCell,Array.getElem?_modify,F9]
    have he:jS X A1 n1 c1 s ty life A3 n3 c3 A4 n4 c4 e=jS X A1 n1 c1 s ty life A3 n3 c3 A4 n4 c4 (DA (.slice A5 n1 c5) (.slice A6 n4 c6) b):=funext λi=>M4 X A1 n1 c1 s ty life A3 n3 c3 A4 n4 c4 i _ _ (λj hj=>Vk h5 h6 h9 hj);rw[he] at ha;unfold Lk;refine⟨rfl,A5,c5,A6,c6,b,ha,?_,?_,tY,ap,by rw[EX]; exact ab,N2,N7,?_⟩
    ·exact F2.heapR (λg hg=>yC g (λe=>N2 (e ▸ hg))) (λ_ _ h=>h)
    ·exact F7.heapR (λg hg=>yC g (λe=>N7 (e ▸ hg))) (λ_ _ h=>h)
    ·rw[hW'];exact (((((((hI.below.setCell (p:=⟨b,0,none⟩) ap _).setCell (p:=⟨b,1,none⟩) ap _).setCell (p:=⟨b,2,none⟩) ap _).setCell (p:=⟨b,3,none⟩) ap _).setCell (p:=⟨b,4,none⟩) ap _).setCell (p:=⟨b,5,none⟩) ap _).setCell (p:=⟨b,6,none⟩) ap _)
  ·rintro e a' w3 ⟨rfl,A5,c5,A6,c6,b,rfl,hA,hB,tY,ap,ab,aO,be,jr⟩;have FA:=jq hA;have FB:=jq hB;have Gd:=jq jr;have NA:=jq aO;have NB:=jq be;have er:=jr.size;rw[Ok] at er;have m30:=(cl jr (by omega)).trans m0;have m31:=(cl jr (by omega)).trans m1;have m32:=(cl jr (by omega)).trans m2;have m33:=(cl jr (by omega)).trans m3;have m34:=(cl jr (by omega)).trans m4;have m35:=(cl jr (by omega)).trans m5;have m36:=(cl jr (by omega)).trans m6;have m37:=(cl jr (by omega)).trans m7;have m38:=(cl jr (by omega)).trans m8;have m3t:=(cl jr (by omega)).trans mt;have lL:=jq ((jr.block (X+1+1) (by omega)).trans bk.out);have jL:=jq tY;have ar:=jq (al.out.trans (jr.mono (by omega)));have XX:w3.cell? ⟨b,5,none⟩=some (.slice A3 n3 c3):=by simp[World.cell?,tY]
   have X3:w3.frozen? ⟨b,5,none⟩=false:=by simp[World.frozen?,tY]
   clear hA hB jr aO be m0 m1 m2 m3 m4 m5 m6 m7 m8 mt tY;rw[lH.out];simp only[lE,Act.put,jS,tp,DA,List.map_cons,List.map_nil];simp;gi_wp2_with fail;refine⟨trivial,rfl,?_⟩;refine (callsIn_wide.2 (Nf _ h.anchor.data (by have:=ta.out; omega) w3 ((H5.out.keep cB ar.out).more cZ (by omega)))).mono ?_;rintro e w4 ⟨v4,rfl,l5,an⟩;have gC:=an.size;have m40:=(cl an (by omega)).trans m30;have m41:=(cl an (by omega)).trans m31;have m42:=(cl an (by omega)).trans m32;have m43:=(cl an (by omega)).trans m33;have m44:=(cl an (by omega)).trans m34;have m45:=(cl an (by omega)).trans m35;have m46:=(cl an (by omega)).trans m36;have m47:=(cl an (by omega)).trans m37;have m48:=(cl an (by omega)).trans m38;have m4t:=(cl an (by omega)).trans m3t;have xR:=jq ((an.block (X+1+1) (by omega)).trans lL.out);have EG:=(an.block b ab).trans jL.out;have FA4:=jq (FA.out.keep fw an er);have FB4:=jq (FB.out.keep kR an er);have bq:=jq (ar.out.trans (an.mono (by omega)));obtain⟨A7,c7,rfl⟩:=l5.formL;rw[ta.out] at l5 |-;have FD4:Hid (bl cr 3 96 w3.heap.size w3.heap.size w4 (.slice A7 n3 c7) h.anchor.data):=jq l5;have ND:Hid ((Value.slice A7 n3 c7).ownBlock≠some b):=jq (λe=>by have:=(l5.ltR _ e).1; omega);have XY:w4.cell? ⟨b,5,none⟩=some (.slice A3 n3 c3):=by simp[World.cell?,EG]
   have X4:w4.frozen? ⟨b,5,none⟩=false:=by simp[World.frozen?,EG]
   obtain⟨w5,aP⟩:∃ w5,w4.setCell ⟨b,5,none⟩ (.slice A7 n3 c7)=w5:=⟨_,rfl⟩;have me:w5.heap.size=w4.heap.size:=by rw[<-aP]; simp
   have Eu:∀ k,k≠b->w5.heap[k]?=w4.heap[k]?:=λk hk=>by rw[<-aP]; exact wQ _ _ _ _ hk
   have Pd:w5.heap[b]?=some (.cells #[.slice A5 n1 c5,.slice none 0 0,.string s,.int .i64 ty,.int .i64 life,.slice A7 n3 c7,.slice A6 n4 c6] 34):=by rw[<-aP]; simp[World.setCell,Array.getElem?_modify,EG]
   have aF:Below Zt w4 w5:=by rw[<-aP]; exact (vQ _ _).setCell (by dsimp only; omega) _
   have m50:=(cl aF (by omega)).trans m40;have m51:=(cl aF (by omega)).trans m41;have m52:=(cl aF (by omega)).trans m42;have m53:=(cl aF (by omega)).trans m43;have m54:=(cl aF (by omega)).trans m44;have m55:=(cl aF (by omega)).trans m45;have m56:=(cl aF (by omega)).trans m46;have m57:=(cl aF (by omega)).trans m47;have m58:=(cl aF (by omega)).trans m48;have m5t:=(cl aF (by omega)).trans m4t;have ru:=jq ((aF.block (X+1+1) (by omega)).trans xR.out);have FA5:=jq (FA4.out.heapR (w':=w5) (λg hg=>Eu g (λe=>NA.out (e ▸ hg))) (λ_ _ h=>h));have FB5:=jq (FB4.out.heapR (w':=w5) (λg hg=>Eu g (λe=>NB.out (e ▸ hg))) (λ_ _ h=>h));have FD5:=jq (FD4.out.heapR (w':=w5) (λg hg=>Eu g (λe=>ND.out (e ▸ hg))) (λ_ _ h=>h));have cS:=jq (bq.out.trans (aF.mono (by omega)));have T3:=jq Pd;have Yd:b<w5.heap.size:=by omega
   clear l5 an EG aF Eu Pd m30 m31 m32 m33 m34 m35 m36 m37 m38 m3t m40 m41 m42 m43 m44 m45 m46 m47 m48 m4t XX X3;gi_wp2_with fail;clear aP XY X4;refine⟨trivial,rfl,?_⟩;refine (callsIn_wide.2 (Io _ _ _ _ _ _ _ _ _ 46 #[.pointer (some ⟨X+1,0,none⟩)] w5)).mono ?_;rintro e w6 ⟨rfl,bK⟩;obtain⟨Xh,IZ⟩:∃ Xh,w5.heap.size=Xh:=⟨_,rfl⟩;have il:w6.heap.size=Xh+2:=by rw[bK]; simp; omega
   have aU:Below w5.heap.size w5 w6:=by rw[bK]; exact ((vQ _ _).alloc (bQ _) _).alloc (by simp) _
   have kX:w6.cell? ⟨Xh,1,none⟩=some (.slice A2 n2 c2):=by rw[bK,<-IZ]; simp[go_sem]
   have kO:w6.cell? ⟨Xh+1,0,none⟩=some (.func (.func 46) #[] #[.pointer (some ⟨X+1,0,none⟩)]):=by rw[bK,<-IZ]; simp[go_sem]
   rw[IZ];obtain⟨L,g9,pr,oy⟩:=It (H4.out.keep fu (cS.out.trans (aU.mono (by omega))));have TF:=jq ((cl aU (by omega)).trans m5t);have zT:=jq (Ip L (λx=>decide (x.1.frm<=t)&&decide (t<x.1.til)) 46 #[.pointer (some ⟨X+1,0,none⟩)] Xh (Xh+1) n2 c2 (λk=>k<w6.heap.size/\k≠b) A2 w6 ⟨by omega,by omega⟩ ⟨by omega,by omega⟩ kX kO pr (by have:=en.out.1; have:=iB.out; omega)
    (λi x hx=>by
      obtain⟨_,b',o,h1,h2,h3⟩:=oy i x hx;exact⟨b',o,h1,⟨by omega,by omega⟩,h3⟩) Wo
    (λx hx W hW=>by
      have h1:=(hW.cell (p:=⟨X+1,0,none⟩) ⟨by dsimp only; omega,by dsimp only; omega⟩).trans TF.out
      have:=hW.1
      exact Vj x.1.host x.1.frm x.1.til x.1.str _ x.1.A x.1.n x.1.c rfl (X+1) t W (by omega) h1))
   have T4:=jq ((aU.block b Yd).trans T3.out);have G8:=jq ((aU.block (X+1+1) (by omega)).trans ru.out);have FA6:=jq (FA5.out.keep fw aU (by omega));have FB6:=jq (FB5.out.keep kR aU (by omega));have FD6:=jq (FD5.out.keep cB aU (by omega));have ca:=jq (cS.out.trans (aU.mono (by omega)));have la:=jq g9;have mu:Hid (∀ x∈L,CVOf w6 X x.1 x.2):=jq (λx hx=>by obtain⟨i,hi⟩:=List.mem_iff_getElem?.1 hx; exact (oy i x hi).1);clear aU bK kX kO g9 oy m5t m50 m51 m52 m53 m54 m55 m56 m57 m58;gi_wp2_with fail;have ML:=jq il;refine Lh (Dr:=λk=>k<w6.heap.size/\k≠b) (w0:=w6) (first:=#[]) (captured:=#[.pointer (some ⟨Xh,0,none⟩),.pointer (some ⟨Xh+1,0,none⟩)]) (gf:=91) rfl Iw (mk:=λy=>#[y,.pointer (some ⟨Xh,0,none⟩),.pointer (some ⟨Xh+1,0,none⟩)]) (λ_=>rfl)
    zT.out (fL.refl λk e=>e.1) (λ_=>rfl) (AtI w6 b (λzv=>#[.slice A5 n1 c5,zv,.string s,.int .i64 ty,.int .i64 life,.slice A7 n3 c7,.slice A6 n4 c6])) (λ_ _ _ _=>False)
    (M7 _ _ _ (by omega)) (λc s S W W' h _=>h)
    (λk=>k=b) (λk h1 h2=>h2.2 h1) (by intro k h; omega)
    ⟨.slice none 0 0,rfl,λg hg=>by simp[Value.ownBlock] at hg,λk e=>.inl e,T4.out,bU.nil _,RdStep.refl _ _⟩ ?round ?done ?stop
   case stop=>
    rintro D c pre S W hD gu bD iJ h hK;exact h.elim
   case done=>
    rintro D S W hD gu bD ⟨zv,D9,yl,pu,lU,hown,bd⟩ hK;obtain⟨pl,kF⟩:∃ pl,((L.filter λx=>decide (x.1.frm<=t)&&decide (t<x.1.til)).map λx:CV×Np.Copy=>Np.im x.2)=pl:=⟨_,rfl⟩;have Mj:Hid ((Np.ki h.copies t).map Np.im=pl):=jq (by
     rw[<-kF,<-la.out];exact aDY mu.out t)
    rw[kF] at hown;have a4K:pl.length<=500:=by
     rw[<-Mj.out,List.length_map]
     have:=aDX h.copies t
     have:=en.out.1
     omega
    clear kF;obtain⟨vA,vc,rfl⟩:=hown.form;obtain⟨m,hm⟩:∃ m,pl.length=m:=⟨_,rfl⟩;rw[hm] at lU hown yl;have HM:=jq hm;have gm:=jq hown;have HHW:=jq bd;have C9:=jq hK;have N3:D<W.heap.size:=(eQ.1 hK).1;have ym:=bd.size;have ek:X<=b:=by omega
    have rJ:Below X w6 W:=bd.below (by omega) (λk e=>by omega);have SF:=jq (ca.out.trans (rJ.mono (by omega)));have Oh:=(bd.keep (X+1+1) (by omega) (by omega)).trans G8.out;have my:=jq Oh;have Te:Hid (bl gb 3 64 Zt Zt W (.slice A5 n1 c5) h.hosts):=jq (FA6.out.heapR (λg hg=>bd.keep g (FA6.out.ltR g hg).2 (λe=>NA.out (e ▸ hg))) (λ_ _ h=>h));have Tf:Hid (bl gJ 1 3 Zt Zt W (.slice A6 n4 c6) h.hints):=jq (FB6.out.heapR (λg hg=>bd.keep g (FB6.out.ltR g hg).2 (λe=>NB.out (e ▸ hg))) (λ_ _ h=>h));have rj:Hid (bl cr 3 96 w3.heap.size w3.heap.size W (.slice A7 n3 c7) h.anchor.data):=jq (FD6.out.heapR (λg hg=>bd.keep g (FD6.out.ltR g hg).2 (λe=>ND.out (e ▸ hg))) (λ_ _ h=>h));have g0:W.cell? ⟨b,0,none⟩=some (.slice A5 n1 c5):=by simp[World.cell?,lU]
    have g1:W.cell? ⟨b,1,none⟩=some (.slice vA m vc):=by simp[World.cell?,lU]
    have g2:W.cell? ⟨b,2,none⟩=some (.string s):=by simp[World.cell?,lU]
    have g3:W.cell? ⟨b,3,none⟩=some (.int .i64 ty):=by simp[World.cell?,lU]
    have g4:W.cell? ⟨b,4,none⟩=some (.int .i64 life):=by simp[World.cell?,lU]
    have g5:W.cell? ⟨b,5,none⟩=some (.slice A7 n3 c7):=by simp[World.cell?,lU]
    have g6:W.cell? ⟨b,6,none⟩=some (.slice A6 n4 c6):=by simp[World.cell?,lU]
    have y0:W.cell? ⟨X+1+1,0,none⟩=some (.slice none 0 0):=by simp[World.cell?,my.out]
    have z0:W.frozen? ⟨X+1+1,0,none⟩=false:=by simp[World.frozen?,my.out]
    have y1:W.cell? ⟨X+1+1,1,none⟩=some (.slice none 0 0):=by simp[World.cell?,my.out]
    have z1:W.frozen? ⟨X+1+1,1,none⟩=false:=by simp[World.frozen?,my.out]
    have y2:W.cell? ⟨X+1+1,2,none⟩=some (.string ⟨#[]⟩):=by simp[World.cell?,my.out]
    have z2:W.frozen? ⟨X+1+1,2,none⟩=false:=by simp[World.frozen?,my.out]
    have y3:W.cell? ⟨X+1+1,3,none⟩=some (.int .i64 0):=by simp[World.cell?,my.out]
    have z3:W.frozen? ⟨X+1+1,3,none⟩=false:=by simp[World.frozen?,my.out]
    have y4:W.cell? ⟨X+1+1,4,none⟩=some (.int .i64 0):=by simp[World.cell?,my.out]
    have z4:W.frozen? ⟨X+1+1,4,none⟩=false:=by simp[World.frozen?,my.out]
    have y5:W.cell? ⟨X+1+1,5,none⟩=some (.slice none 0 0):=by simp[World.cell?,my.out]
    have z5:W.frozen? ⟨X+1+1,5,none⟩=false:=by simp[World.frozen?,my.out]
    have y6:W.cell? ⟨X+1+1,6,none⟩=some (.slice none 0 0):=by simp[World.cell?,my.out]
    have z6:W.frozen? ⟨X+1+1,6,none⟩=false:=by simp[World.frozen?,my.out]
    have ry:=jq gu;have Uw:=jq yl;have Mu:=jq pu;have NAD:Hid (∀ g,(Value.slice A5 n1 c5).ownBlock=some g->Zt<=g/\g<w6.heap.size):=jq (λg hg=>FA6.out.ltR g hg);have NBD:Hid (∀ g,(Value.slice A6 n4 c6).ownBlock=some g->Zt<=g/\g<w6.heap.size):=jq (λg hg=>FB6.out.ltR g hg);have NDD:Hid (∀ g,(Value.slice A7 n3 c7).ownBlock=some g->w3.heap.size<=g/\g<w6.heap.size):=jq (λg hg=>FD6.out.ltR g hg);clear hm hown bd hK rJ Oh lU D9 yl pu bD gu;gi_wp2_with fail;obtain⟨W',hW'⟩:∃ W',(((((((W.setCell ⟨X+1+1,0,none⟩ (.slice A5 n1 c5)).setCell ⟨X+1+1,1,none⟩ (.slice vA m vc)).setCell ⟨X+1+1,2,none⟩ (.string s)).setCell ⟨X+1+1,3,none⟩ (.int .i64 ty)).setCell ⟨X+1+1,4,none⟩ (.int .i64 life)).setCell ⟨X+1+1,5,none⟩ (.slice A7 n3 c7)).setCell ⟨X+1+1,6,none⟩ (.slice A6 n4 c6))=W':=⟨_,rfl⟩;have pT:W'.heap.size=W.heap.size:=by rw[<-hW']; simp
    have gN:∀ k,k≠X+1+1->W'.heap[k]?=W.heap[k]?:=λk hk=>by rw[<-hW']; exact ((wQ _ _ _ k hk).trans ((wQ _ _ _ k hk).trans ((wQ _ _ _ k hk).trans ((wQ _ _ _ k hk).trans ((wQ _ _ _ k hk).trans ((wQ _ _ _ k hk).trans (wQ _ _ _ k hk)))))))
    have Be:Below X w W':=by rw[<-hW']; exact (((((((SF.out.setCell (p:=⟨X+1+1,0,none⟩) (by dsimp only; omega) _).setCell (p:=⟨X+1+1,1,none⟩) (by dsimp only; omega) _).setCell (p:=⟨X+1+1,2,none⟩) (by dsimp only; omega) _).setCell (p:=⟨X+1+1,3,none⟩) (by dsimp only; omega) _).setCell (p:=⟨X+1+1,4,none⟩) (by dsimp only; omega) _).setCell (p:=⟨X+1+1,5,none⟩) (by dsimp only; omega) _).setCell (p:=⟨X+1+1,6,none⟩) (by dsimp only; omega) _)
    have ij:W'.os=W.os/\W'.tape=W.tape/\W'.output=W.output:=by rw[<-hW']; simp[World.setCell]
    have oz:X+1+1≠D:=by omega
    have e0:W'.cell? ⟨X+1+1,0,none⟩=some (.slice A5 n1 c5):=by rw[<-hW']; simp[go_sem,y0]
    have e1:W'.cell? ⟨X+1+1,1,none⟩=some (.slice vA m vc):=by rw[<-hW']; simp[go_sem,y1]
    have e2:W'.cell? ⟨X+1+1,2,none⟩=some (.string s):=by rw[<-hW']; simp[go_sem,y2]
    have e3:W'.cell? ⟨X+1+1,3,none⟩=some (.int .i64 ty):=by rw[<-hW']; simp[go_sem,y3]
    have e4:W'.cell? ⟨X+1+1,4,none⟩=some (.int .i64 life):=by rw[<-hW']; simp[go_sem,y4]
    have e5:W'.cell? ⟨X+1+1,5,none⟩=some (.slice A7 n3 c7):=by rw[<-hW']; simp[go_sem,y5]
    have e6:W'.cell? ⟨X+1+1,6,none⟩=some (.slice A6 n4 c6):=by rw[<-hW']; simp[go_sem,y6]
    have f0:=(iQ (w:=W') (w':=W'.putObj D (.deferred none)) (a:=⟨X+1+1,0,none⟩) (zQ oz)).trans e0;have f1:=(iQ (w:=W') (w':=W'.putObj D (.deferred none)) (a:=⟨X+1+1,1,none⟩) (zQ oz)).trans e1;have f2:=(iQ (w:=W') (w':=W'.putObj D (.deferred none)) (a:=⟨X+1+1,2,none⟩) (zQ oz)).trans e2;have f3:=(iQ (w:=W') (w':=W'.putObj D (.deferred none)) (a:=⟨X+1+1,3,none⟩) (zQ oz)).trans e3;have f4:=(iQ (w:=W') (w':=W'.putObj D (.deferred none)) (a:=⟨X+1+1,4,none⟩) (zQ oz)).trans e4;have f5:=(iQ (w:=W') (w':=W'.putObj D (.deferred none)) (a:=⟨X+1+1,5,none⟩) (zQ oz)).trans e5;have f6:=(iQ (w:=W') (w':=W'.putObj D (.deferred none)) (a:=⟨X+1+1,6,none⟩) (zQ oz)).trans e6;have Bi:W'.heap[D]?=some (.deferred (some [])):=(gN D (by omega)).trans C9.out;rw[hW'];have yA:∀ k,k≠X+1+1->k≠D->(W'.putObj D (.deferred none)).heap[k]?=W.heap[k]?:=λk h1 h2=>(zQ h2).trans (gN k h1);have yT:(W'.putObj D (.deferred none)).heap.size=W.heap.size:=by simpa using pT
    refine po Bi (v:=.tuple #[.agg #[.slice A5 n1 c5,.slice vA m vc,.string s,.int .i64 ty,.int .i64 life,.slice A7 n3 c7,.slice A6 n4 c6],.int .i64 0]) (by simp[results,results12,go_sem,f0,f1,f2,f3,f4,f5,f6]) ⟨[.slice A5 n1 c5,.slice vA m vc,.string s,.int .i64 ty,.int .i64 life,.slice A7 n3 c7,.slice A6 n4 c6],Fq rfl (by rw[(Np.qq HK.out).2]),?_,pm Be (by omega) _⟩;rw[(Np.qq HK.out).1];have hZ:(Np.oT h t).zones=pl:=Mj.out;intro Mq yh;refine⟨.slice A5 n1 c5,.slice vA m vc,s,.slice A7 n3 c7,.slice A6 n4 c6,?_,HS.out.1,HS.out.2,?_,?_,?_,?_⟩
    rotate_left
    ·have h1:=((Te.out.heapR (w':=W'.putObj D (.deferred none)) (λg hg=>yA g (by have:=NAD.out g hg; omega) (by have:=NAD.out g hg; omega)) (λ_ _ h=>h)).sans (M:=Mq) (λk hk=>by have:=yh k hk; omega) (λ_ _ h=>h)).slr kP (by rw[gU,yT]; omega) (by have:=fB.out; omega);rw[gU] at h1;exact h1
    ·rw[hZ];have h1:=gm.out.slr_sans (M':=λk=>(k=X+1+1\/k=D)\/Mq k) nR fW (λk hk=>by
      rcases hk with (rfl | rfl) | hk
      ·exact⟨.inr (.inr (λhs=>by have:=Mu.out _ hs; omega)),λe=>by have:=(gm.out.lt _ e).1; omega⟩
      ·exact⟨.inr (.inr ry.out),λe=>ry.out (Uw.out _ e)⟩
      ·have h2:=yh k hk;exact⟨.inr (.inr (λhs=>by have:=Mu.out _ hs; omega)),λe=>by have:=(gm.out.lt _ e).1; omega⟩) (by omega)
     have h2:=(Leaves'.slr (M:=λk=>(k=X+1+1\/k=D)\/Mq k) (M':=λk=>(k=X+1+1\/k=D)\/Mq k) fV nR fW (w':=W'.putObj D (.deferred none)) ⟨ij.1,ij.2.1,ij.2.2,by rw[yT]; exact bQ _,λi hi hm=>⟨hm,yA i (λe=>hm (.inl (.inl e))) (λe=>hm (.inl (.inr e)))⟩⟩ h1);exact h2.sans nR (λk hk=>.inr hk)
    ·have h1:=((rj.out.heapR (w':=W'.putObj D (.deferred none)) (λg hg=>yA g (by have:=NDD.out g hg; omega) (by have:=NDD.out g hg; omega)) (λ_ _ h=>h)).sans (M:=Mq) (λk hk=>by have:=yh k hk; omega) (λ_ _ h=>h)).slr cZ (by rw[gU,yT]; omega) (by have:=ta.out; omega);rw[gU] at h1;exact h1
    ·have h1:=((Tf.out.heapR (w':=W'.putObj D (.deferred none)) (λg hg=>yA g (by have:=NBD.out g hg; omega) (by have:=NBD.out g hg; omega)) (λ_ _ h=>h)).sans (M:=Mq) (λk hk=>by have:=yh k hk; omega) (λ_ _ h=>h)).slr sI (by rw[gU,yT]; omega) (by have:=rt.out; omega);rw[gU] at h1;exact h1
    ·rw[<-gY.out.1,<-gY.out.2]; rfl
   case round=>
    rintro l0 pre ⟨⟨xh,xf,xt,xs,xA,xn,xc⟩,cc⟩ S W ck hI fG;have kF:pre.length<=500:=by
     have h1:=ck.length_le;have h2:=List.length_filter_le (λx:CV×Np.Copy=>decide (x.1.frm<=t)&&decide (t<x.1.til)) L;have h3:=en.out.1;have h4:=iB.out;rw[List.length_append,List.length_singleton] at h1;omega
    have vt:Hid ((⟨⟨xh,xf,xt,xs,xA,xn,xc⟩,cc⟩:CV×Np.Copy)∈L):=jq ((List.mem_filter.1 (ck.subset (by simp:(⟨⟨xh,xf,xt,xs,xA,xn,xc⟩,cc⟩:CV×Np.Copy)∈_))).1);have lS:=Vl hI ((vQ _ W).alloc (bQ _) (.cells #[.int .i64 xh,.int .i64 xf,.int .i64 xt,.string xs,.slice xA xn xc] 58));have ym:w6.heap.size<=W.heap.size:=by obtain⟨_,_,_,_,_,_,hB⟩:=hI; exact hB.size
    have vd:=jq ck;have lc:=jq kF;clear hI ck kF;gi_wp2;refine⟨λk=>S k\/k=W.heap.size,(RdStep.refl S W).alloc _,λk e=>e.imp id (λh=>by omega),λk e=>by rcases e with e | e; have:=fG k e; simp; omega; simp; omega,?_⟩;intro l W₂ aq;have IN:=M7 w6 b _ (by omega) pre S _ W₂ lS (aq.weaken (bQ _) (λk e=>.inl e));have kH:=aq.size;simp only[World.size_alloc] at kH;have gg:W₂.heap[W.heap.size]?=some (.cells #[.int .i64 xh,.int .i64 xf,.int .i64 xt,.string xs,.slice xA xn xc] 58):=(aq.keep W.heap.size (by simp) (.inr (.inr rfl))).trans (heap_alloc_new _ _);obtain⟨zv,D9,yl,pu,lU,hown,bd⟩:=IN;have Hs:=jq yl;have eO:=jq pu;have tf:=jq D9;have Ae:=jq hown;have Aj:=jq bd;have vj:Hid (∀ k,S k->k<W₂.heap.size):=jq (λk e=>by have:=fG k e; omega);have p8:Hid (CVOf w6 X ⟨xh,xf,xt,xs,xA,xn,xc⟩ cc):=jq (mu.out _ vt.out);have gk:Hid (Below X w6 W₂):=jq (bd.below (by omega) (λk e=>by omega));obtain⟨sets,oK⟩:∃ sets,cc.zone.sets=sets:=⟨_,rfl⟩;have ql:=jq oK;have Ho:Hid (SlR bC 5 W₂ X (.slice xA xn xc) sets):=jq (by have:=(p8.out.keep gk.out).sets; rw[oK] at this; exact this);have yP:sets.length=xn:=by rw[<-oK]; exact p8.out.len
    have ZT:xn<=20000:=by rw[<-yP,<-oK]; exact en.out.2 cc (by rw[<-la.out]; exact List.mem_map.2 ⟨_,vt.out,rfl⟩)
    have vu:=jq yP;obtain⟨vA,vc,rfl⟩:=hown.form;obtain⟨m,hm⟩:∃ m,(pre.map λx:CV×Np.Copy=>Np.im x.2).length=m:=⟨_,rfl⟩;rw[hm] at lU Ae Hs;have HM:=jq hm;have uY:Hid (m<=500):=jq (by rw[<-hm,List.length_map]; exact lc.out);obtain⟨zb,kK⟩:∃ zb,W₂.heap.size=zb:=⟨_,rfl⟩;have Yj:W₂.cell? ⟨W.heap.size,3,none⟩=some (.string xs):=by simp[World.cell?,gg]
    have Ek:W₂.cell? ⟨W.heap.size,4,none⟩=some (.slice xA xn xc):=by simp[World.cell?,gg]
    obtain⟨w7,gS⟩:∃ w7,W₂.alloc (.cells #[.string xs,.slice none 0 0] 56)=w7:=⟨_,rfl⟩;have mL:w7.heap.size=zb+1:=by rw[<-gS,<-kK]; simp
    have dY:Below zb W₂ w7:=by rw[<-gS,<-kK]; exact (vQ _ _).alloc (bQ _) _
    have PZ:w7.heap[zb]?=some (.cells #[.string xs,.slice none 0 0] 56):=by rw[<-gS,<-kK]; exact heap_alloc_new _ _
    have dcc4:=(cl dY (by omega)).trans Ek;have UZ:=jq PZ;have dJ:=jq dY;have ml:=jq gg;have aB:=jq lU;have rD:=jq kK;have hXz:X+3<=zb:=by omega
    have h6z:w6.heap.size<=zb:=by omega
    have jr:b<zb:=by omega
    have tH:W.heap.size<zb:=by omega
    have UQ:=jq gS;have hcw:W.heap.size<W₂.heap.size:=by omega
    clear hm hown D9 yl pu bd lS aq gg oK yP lU PZ dY fG kK gS;gi_wp2_with fail;rw[UQ.out,rD.out];clear Yj Ek;obtain⟨is0,sm,JT,so,kH⟩:=info_parts Tryz.infoSignedAt;obtain⟨pi0,Zg,Zj,Zk,Zl⟩:=info_parts Tryz.infoPlaced;gi_loopw [52] (λi wr=>∃ (j:Nat) (zA:Option Addr) (zc:Nat),j<=xn/\i = .int .i64 j/\zb+1<=wr.heap.size/\Hid (Below zb W₂ wr)/\Hid (wr.heap[zb]?=some (.cells #[.string xs,.slice zA j zc] 56))/\Hid (bU bC 5 68 (zb+1) (AtZ zb (.slice zA j zc)) wr (.slice zA j zc) (sets.take j))) (λi _=>xn - (intOf i).toNat)
    case atStart=>exact⟨0,none,0,jQ _,rfl,by omega,dJ,UZ,jq (by rw[List.take_zero]; exact bU.nil _)⟩
    case round=>
     obtain⟨j,zA,zc,hj,rfl,P0,bO,gX,xS⟩:=hrel;by_cases aa:j<xn
     ·obtain⟨x,ac⟩:∃ x,sets[j]?=some x:=⟨_,aQ (by rw[vu.out]; exact aa)⟩;obtain⟨b',o,c',ss,dv,sv,hA,hb',_,hs,Ce,aL,ax,e0,e1,e2,e3,e4⟩:=eE (Ho.out.keep aN (bO.out.mono (by omega))) ac;simp only[Value.slice.injEq] at hA;obtain⟨rfl,-,rfl⟩:=hA;have Ht:Hid (sets.take (j+1)=sets.take j ++ [x]):=jq (by
       obtain⟨hl,he⟩:=cQ.1 ac;rw[fQ hl,he])
      have GM:Hid ((sets.take j).length=j):=jq (by rw[List.length_take,vu.out]; omega);have uJ:Hid (x.set.data.length<=1000000/\x.sigs.length<=1000000):=jq (by
       have hc:cc∈h.copies:=by rw[<-la.out]; exact List.mem_map.2 ⟨_,vt.out,rfl⟩
       have hx:x∈cc.zone.sets:=by rw[ql.out]; exact gQ ac
       have:=JS cc hc x hx
       omega)
      have qm:=jq (And.intro hs Ce);have iA:Hid (∀ W',Below wr.heap.size wr W'->SlR cr 3 W' W'.heap.size dv x.set.data):=jq (λW' hb=>(aL.keep cB (hb.mono (by omega))).more cZ (by have:=hb.size; omega));have xJ:Hid (∀ W',Below wr.heap.size wr W'->SlR fj 6 W' W'.heap.size sv x.sigs):=jq (λW' hb=>(ax.keep el (hb.mono (by omega))).more fx (by have:=hb.size; omega));obtain⟨dA,dc,rfl,_,_⟩:=ah aL;obtain⟨gA,gc,rfl,_,_⟩:=ah ax;obtain⟨dn,qy⟩:∃ n,x.set.data.length=n:=⟨_,rfl⟩;obtain⟨gn,qD⟩:∃ n,x.sigs.length=n:=⟨_,rfl⟩;rw[qy] at e3 iA;rw[qD] at e4 xJ;have Gl:=jq qy;have Gx:=jq qD;clear ac hs Ce aL ax qy qD;have bH:(0:Int)<=(j:Int):=by omega
      have bG:(j:Int)<(xn:Int):=by omega
      obtain⟨w8,ik⟩:∃ w8,wr.alloc (.cells #[.string ss,.int .i64 x.set.type,.int .i64 x.set.life,.slice dA dn dc,.slice gA gn gc] 68)=w8:=⟨_,rfl⟩;have sC:w8.heap.size=wr.heap.size+1:=by rw[<-ik]; simp
      have jY:Below wr.heap.size wr w8:=by rw[<-ik]; exact (vQ _ _).alloc (bQ _) _
      have p0:w8.cell? ⟨wr.heap.size,0,none⟩=some (.string ss):=by rw[<-ik]; simp[go_sem]
      have p1:w8.cell? ⟨wr.heap.size,1,none⟩=some (.int .i64 x.set.type):=by rw[<-ik]; simp[go_sem]
      have p2:w8.cell? ⟨wr.heap.size,2,none⟩=some (.int .i64 x.set.life):=by rw[<-ik]; simp[go_sem]
      have p3:w8.cell? ⟨wr.heap.size,3,none⟩=some (.slice dA dn dc):=by rw[<-ik]; simp[go_sem]
      have p4:w8.cell? ⟨wr.heap.size,4,none⟩=some (.slice gA gn gc):=by rw[<-ik]; simp[go_sem]
      have rz:=(jY.block zb (by omega)).trans gX.out;have r1:w8.cell? ⟨zb,1,none⟩=some (.slice zA j zc):=by simp[World.cell?,rz]
      have Lr:=jq jY;have Ls:=jq jY;clear jY;gi_wp2_with fail;clear ik e0 e1 e2 e3 e4;refine zr λa0 bW=>?_;have lH:=jq bW;have eF:=jq (show a0.eval (.tmp 8) = .pointer (some ⟨zb,0,none⟩) by rw[bW]; rfl);have gF:=jq (show a0.eval (.tmp 10) = .pointer (some ⟨wr.heap.size,0,none⟩) by rw[bW]; rfl);have HM:=jq (show a0.tmps.size=74 by rw[bW]; rfl);clear bW;refine FN (by kernel_rfl) (by kernel_rfl) (by rintro⟨_,_,h⟩; exact h) ?_;refine jg (w:=w8.drew) (D:=[0,1,2,6]) (A:=[]) (p:=3) (dst:=g8) (val:=iT zb (.slice zA j zc) ss x.set.type x.set.life dA dn dc gA gn gc undef undef undef) (m:=74)
       (base:=ea a0 74 AO) (jf (by kernel_rfl)) (by simp) (by simp) (iN (by kernel_rfl)) ?_
       (λi hi=>(oj i (by simp at hi |-; omega)).1) (λi hi j hj=>vD i (by simp at hi |-; omega) j (by simp at hj |-; omega)) (λi hi=>dH (oj i (by simp at hi |-; omega)).2) ?_ ?_ _ _ _ (Held.start (λq hq=>uu q hq) HM.out)
      ·intro i hi aC;simp only[List.mem_cons,Qh,or_false] at hi;rcases hi with rfl | rfl | rfl | rfl
       all_goals first | (exfalso; simp at aC; done) | exact⟨_,rfl,rfl⟩
      ·intro i hi aC o ho a' hb bg;have k8':=(bn hb (j:=8) (by decide) (by decide)).trans eF.out;have k10':=(bn hb (j:=10) (by decide) (by decide)).trans gF.out;simp[Act.eval] at k8' k10';simp only[List.mem_cons,Qh,or_false] at hi;rcases hi with rfl | rfl | rfl | rfl
       all_goals first
        | (exfalso; simp at aC; done)
        | (cases ho
           try simp[Act.eval,Region.binds,iT,g8] at bg
           refine .inl ⟨by simp[Region.wanted],λw' hw'=>?_⟩;subst hw';simp[Oper.quietAt,Oper.quietUpon,execOp,go_sem,iT,k8',k10',p0,p1,p2,p3,p4,r1,bg])
      ·intro f listed a' hH hr;obtain⟨_,o,ho,az⟩:=mem_ready.1 hr
       cases ho
       have hG:=hH.good;have hval:=λi hi hl=>hG.val i hi hl;have b7:∀ k,({ on:=k,ground:=.data } : Edge)∈_->listed.getD k false=true:=λk hk=>az _ hk rfl;have av2:=hval 2 (by simp) (b7 2 (by simp));simp[Act.eval,iT,g8] at av2;simp only[wpOp];simp[Region.wanted];refine .inl ?_;simp[Oper.wp,go_sem,av2];refine (Ng ss x.set.type x.set.life _ x.set.data _ x.sigs uJ.out.1 uJ.out.2 w8.drew (iA.out w8.drew Ls.out.drew) (xJ.out w8.drew Ls.out.drew)).mono ?_;rintro e w9 ⟨dv2,gv2,rfl,js,Ov⟩;have dO:Below w8.heap.size w8 w9:=(vQ w8.heap.size w8).drew.trans Ov;have yR:=dO.size;replace p0:=(cl dO (by omega)).trans p0;replace p1:=(cl dO (by omega)).trans p1;replace p2:=(cl dO (by omega)).trans p2;replace p3:=(cl dO (by omega)).trans p3;replace p4:=(cl dO (by omega)).trans p4;replace r1:=(cl dO (by omega)).trans r1;replace rz:=(dO.block zb (by omega)).trans rz;have mo:Hid (FT w8.heap.size w9 dv2 gv2 x.set.data x.sigs):=jq js;obtain⟨dA2,dc2,rfl,_,_⟩:=ah ((js (λ_=>False) (λ_ e=>e.elim)).1);obtain⟨gA2,gc2,rfl,_,_⟩:=ah ((js (λ_=>False) (λ_ e=>e.elim)).2);rw[Gl.out,Gx.out] at mo |-;have T6:=jq (xS.out.keep aN jc bN (Lr.out.trans (dO.mono (by omega))));have du:=jq dO;clear js dO Ov;dsimp only;refine jg (w:=w9) (D:=[0,1,2,6,3]) (A:=[3]) (p:=4) (dst:=g8) (val:=iT zb (.slice zA j zc) ss x.set.type x.set.life dA dn dc gA gn gc (.agg #[.string ss,.int .i64 x.set.type,.int .i64 x.set.life,.slice dA2 dn dc2,.slice gA2 gn gc2]) undef undef) (m:=74)
        (base:=ea a0 74 AO) (jf (by kernel_rfl)) (by simp) (by simp) (iN (by kernel_rfl)) ?_
        (λi hi=>(oj i (by simp at hi |-; omega)).1) (λi hi j hj=>vD i (by simp at hi |-; omega) j (by simp at hj |-; omega)) (λi hi=>dH (oj i (by simp at hi |-; omega)).2) ?_ ?_ _ _ _ (hH.act (D':=[0,1,2,6,3]) (val':=iT zb (.slice zA j zc) ss x.set.type x.set.life dA dn dc gA gn gc (.agg #[.string ss,.int .i64 x.set.type,.int .i64 x.set.life,.slice dA2 dn dc2,.slice gA2 gn gc2]) undef undef) hr (by simp) (λi hi=>by simp at hi |-; omega) (λi hi=>by simp at hi; rcases hi with rfl | rfl | rfl | rfl <;> rfl) rfl (by simp[g8]) (λj hj=>vD 3 (by simp) j (by simp at hj |-; omega) (by rintro rfl; simp at hj)) (dH (oj 3 (by simp)).2) (by simp))
       ·intro i hi aC;simp only[List.mem_cons,Qh,or_false] at hi;rcases hi with rfl | rfl | rfl | rfl | rfl
        all_goals first | (exfalso; simp at aC; done) | exact⟨_,rfl,rfl⟩
       ·intro i hi aC o ho a' hb bg;have k8':=(bn hb (j:=8) (by decide) (by decide)).trans eF.out;have k10':=(bn hb (j:=10) (by decide) (by decide)).trans gF.out;simp[Act.eval] at k8' k10';simp only[List.mem_cons,Qh,or_false] at hi;rcases hi with rfl | rfl | rfl | rfl | rfl
        all_goals first
         | (exfalso; simp at aC; done)
         | (cases ho
            try simp[Act.eval,Region.binds,iT,g8] at bg
            refine .inl ⟨by simp[Region.wanted],λw' hw'=>?_⟩;subst hw';simp[Oper.quietAt,Oper.quietUpon,execOp,go_sem,iT,k8',k10',p0,p1,p2,p3,p4,r1,bg])
       ·intro f listed a' hH hr;obtain⟨_,o,ho,az⟩:=mem_ready.1 hr
        cases ho
        have hG:=hH.good;have hval:=λi hi hl=>hG.val i hi hl;have b7:∀ k,({ on:=k,ground:=.data } : Edge)∈_->listed.getD k false=true:=λk hk=>az _ hk rfl;have av3:=hval 3 (by simp) (b7 3 (by simp));simp[Act.eval,iT,g8] at av3;simp only[wpOp];simp[Region.wanted];refine .inl ?_;simp[Oper.wp,execOp,go_sem,av3];obtain⟨wX,nJ⟩:∃ W,W=w9.alloc (.cells #[.string ss,.int .i64 x.set.type,.int .i64 x.set.life,.slice dA2 dn dc2,.slice gA2 gn gc2] 68):=⟨_,rfl⟩;rw[<-nJ];have dP:Below w9.heap.size w9 wX:=by rw[nJ]; exact (vQ _ _).alloc (bQ _) _
        have Bz:cR wX w9.heap.size 0 [.string ss,.int .i64 x.set.type,.int .i64 x.set.life,.slice dA2 dn dc2,.slice gA2 gn gc2]:=λi v hi=>by
         rw[nJ]
         match i,hi with
         | 0,hi=>cases hi; simp[go_sem]
         | 1,hi=>cases hi; simp[go_sem]
         | 2,hi=>cases hi; simp[go_sem]
         | 3,hi=>cases hi; simp[go_sem]
         | 4,hi=>cases hi; simp[go_sem]
         | i+5,hi=>simp at hi
        have PV:=dP.size;replace p0:=(cl dP (by omega)).trans p0;replace p1:=(cl dP (by omega)).trans p1;replace p2:=(cl dP (by omega)).trans p2;replace p3:=(cl dP (by omega)).trans p3;replace p4:=(cl dP (by omega)).trans p4;replace r1:=(cl dP (by omega)).trans r1;replace rz:=(dP.block zb (by omega)).trans rz;have oY:=jq Bz;have SE:=jq dP;have Md:=jq (T6.out.keep aN jc bN dP);have mY:Hid (bC (bj wX (AtZ zb (.slice zA j zc))) wX.heap.size [.string ss,.int .i64 x.set.type,.int .i64 x.set.life,.slice dA2 dn dc2,.slice gA2 gn gc2] x):=jq (by
         have h1:=mo.out (AtZ zb (.slice zA j zc)) (λk hk=>by
          rcases hk with hk | hk
          ·omega
          ·have:=(xS.out.lt k hk).2; omega)
         have h2:=(Leaves'.of_below (M:=AtZ zb (.slice zA j zc)) dP).slr cB xl cZ h1.1;have h3:=(Leaves'.of_below (M:=AtZ zb (.slice zA j zc)) dP).slr el zh fx h1.2;exact⟨ss,_,_,qm.out.1,qm.out.2,h2,h3,rfl⟩)
        clear nJ dP Bz;refine jg (w:=wX) (D:=[0,1,2,6,3,4]) (A:=[4,3]) (p:=5) (dst:=g8) (val:=iT zb (.slice zA j zc) ss x.set.type x.set.life dA dn dc gA gn gc (.agg #[.string ss,.int .i64 x.set.type,.int .i64 x.set.life,.slice dA2 dn dc2,.slice gA2 gn gc2]) (.slice (some ⟨w9.heap.size,0,none⟩) 1 1) undef) (m:=74)
         (base:=ea a0 74 AO) (jf (by kernel_rfl)) (by simp) (by simp) (iN (by kernel_rfl)) ?_
         (λi hi=>(oj i (by simp at hi |-; omega)).1) (λi hi j hj=>vD i (by simp at hi |-; omega) j (by simp at hj |-; omega)) (λi hi=>dH (oj i (by simp at hi |-; omega)).2) ?_ ?_ _ _ _ (hH.act (D':=[0,1,2,6,3,4]) (val':=iT zb (.slice zA j zc) ss x.set.type x.set.life dA dn dc gA gn gc (.agg #[.string ss,.int .i64 x.set.type,.int .i64 x.set.life,.slice dA2 dn dc2,.slice gA2 gn gc2]) (.slice (some ⟨w9.heap.size,0,none⟩) 1 1) undef) hr (by simp) (λi hi=>by simp at hi |-; omega) (λi hi=>by simp at hi; rcases hi with rfl | rfl | rfl | rfl | rfl <;> rfl) rfl (by simp[g8]) (λj hj=>vD 4 (by simp) j (by simp at hj |-; omega) (by rintro rfl; simp at hj)) (dH (oj 4 (by simp)).2) (by simp))
        ·intro i hi aC;simp only[List.mem_cons,Qh,or_false] at hi;rcases hi with rfl | rfl | rfl | rfl | rfl | rfl
         all_goals first | (exfalso; simp at aC; done) | exact⟨_,rfl,rfl⟩
        ·intro i hi aC o ho a' hb bg;have k8':=(bn hb (j:=8) (by decide) (by decide)).trans eF.out;have k10':=(bn hb (j:=10) (by decide) (by decide)).trans gF.out;simp[Act.eval] at k8' k10';simp only[List.mem_cons,Qh,or_false] at hi;rcases hi with rfl | rfl | rfl | rfl | rfl | rfl
         all_goals first
          | (exfalso; simp at aC; done)
          | (cases ho
             try simp[Act.eval,Region.binds,iT,g8] at bg
             refine .inl ⟨by simp[Region.wanted],λw' hw'=>?_⟩;subst hw';simp[Oper.quietAt,Oper.quietUpon,execOp,go_sem,iT,k8',k10',p0,p1,p2,p3,p4,r1,bg])
        ·intro f listed a' hH hr;obtain⟨_,o,ho,az⟩:=mem_ready.1 hr
         cases ho
         have hG:=hH.good;have hval:=λi hi hl=>hG.val i hi hl;have b7:∀ k,({ on:=k,ground:=.data } : Edge)∈_->listed.getD k false=true:=λk hk=>az _ hk rfl;have av1:=hval 1 (by simp) (b7 1 (by simp));have av4:=hval 4 (by simp) (b7 4 (by simp));simp[iT,g8] at av1 av4;simp only[wpOp];simp[Region.wanted];refine .inl ?_;refine FP (R:=bC) (M:=AtZ zb (.slice zA j zc)) wX (.tmp 57) (.tmp 60) 54 rfl (zb+1) 68 is0 (.agg #[.string ⟨#[]⟩,.int .i64 0,.int .i64 0,.slice none 0 0,.slice none 0 0]) 80 underlying54 sm JT so kH rfl (by decide) (.slice zA j zc) (sets.take j) av1 Md.out (some ⟨w9.heap.size,0,none⟩) 1 [x] av4 (Ft rfl mY.out oY.out) aAJ (by rw[GM.out]; simp[maxLen]; omega) (by rw[GM.out]; simp; omega) (by omega) aN jc bN ?_;intro v8 wY bY aW eT;obtain⟨A8,c8,rfl⟩:=bY.formN (n:=j+1) (by rw[List.length_append,GM.out]; rfl);have qx:Below (zb+1) wX wY:=(vQ _ _).grown aW (by omega) (λg hg=>(Md.out.lt g hg).1);have PW:=qx.size;have Ep:some wr.heap.size≠(Value.slice zA j zc).ownBlock:=λe=>by have:=(xS.out.lt _ e.symm).2; omega
         have OY:wr.heap.size<wX.heap.size:=by omega
         have ic:=aW.block wr.heap.size OY Ep;replace p0:=(iQ (a:=⟨wr.heap.size,0,none⟩) ic).trans p0;replace p1:=(iQ (a:=⟨wr.heap.size,1,none⟩) ic).trans p1;replace p2:=(iQ (a:=⟨wr.heap.size,2,none⟩) ic).trans p2;replace p3:=(iQ (a:=⟨wr.heap.size,3,none⟩) ic).trans p3;replace p4:=(iQ (a:=⟨wr.heap.size,4,none⟩) ic).trans p4;replace r1:=(cl qx (by omega)).trans r1;replace rz:=(qx.block zb (by omega)).trans rz;have H8:=jq (And.intro bY (And.intro qx eT));clear bY aW eT qx;refine jg (w:=wY) (D:=[0,1,2,6,3,4,5]) (A:=[5,4,3]) (p:=7) (dst:=g8) (val:=iT zb (.slice zA j zc) ss x.set.type x.set.life dA dn dc gA gn gc (.agg #[.string ss,.int .i64 x.set.type,.int .i64 x.set.life,.slice dA2 dn dc2,.slice gA2 gn gc2]) (.slice (some ⟨w9.heap.size,0,none⟩) 1 1) (.slice A8 (j+1) c8)) (m:=74)
          (base:=ea a0 74 AO) (jf (by kernel_rfl)) (by simp) (by simp) (iN (by kernel_rfl)) ?_
          (λi hi=>(oj i (by simp at hi |-; omega)).1) (λi hi j hj=>vD i (by simp at hi |-; omega) j (by simp at hj |-; omega)) (λi hi=>dH (oj i (by simp at hi |-; omega)).2) ?_ ?_ _ _ _ (hH.act (D':=[0,1,2,6,3,4,5]) (val':=iT zb (.slice zA j zc) ss x.set.type x.set.life dA dn dc gA gn gc (.agg #[.string ss,.int .i64 x.set.type,.int .i64 x.set.life,.slice dA2 dn dc2,.slice gA2 gn gc2]) (.slice (some ⟨w9.heap.size,0,none⟩) 1 1) (.slice A8 (j+1) c8)) hr (by simp) (λi hi=>by simp at hi |-; omega) (λi hi=>by simp at hi; rcases hi with rfl | rfl | rfl | rfl | rfl | rfl <;> rfl) rfl (by simp[g8]) (λj hj=>vD 5 (by simp) j (by simp at hj |-; omega) (by rintro rfl; simp at hj)) (dH (oj 5 (by simp)).2) (by simp))
         ·intro i hi aC;simp only[List.mem_cons,Qh,or_false] at hi;rcases hi with rfl | rfl | rfl | rfl | rfl | rfl | rfl
          all_goals first | (exfalso; simp at aC; done) | exact⟨_,rfl,rfl⟩
         ·intro i hi aC o ho a' hb bg;have k8':=(bn hb (j:=8) (by decide) (by decide)).trans eF.out;have k10':=(bn hb (j:=10) (by decide) (by decide)).trans gF.out;simp[Act.eval] at k8' k10';simp only[List.mem_cons,Qh,or_false] at hi;rcases hi with rfl | rfl | rfl | rfl | rfl | rfl | rfl
          all_goals first
           | (exfalso; simp at aC; done)
           | (cases ho
              try simp[Act.eval,Region.binds,iT,g8] at bg
              refine .inl ⟨by simp[Region.wanted],λw' hw'=>?_⟩;subst hw';simp[Oper.quietAt,Oper.quietUpon,execOp,go_sem,iT,k8',k10',p0,p1,p2,p3,p4,r1,bg])
         ·intro f listed a' hH hr;obtain⟨_,o,ho,az⟩:=mem_ready.1 hr
          cases ho
          have hG:=hH.good;have hval:=λi hi hl=>hG.val i hi hl;have b7:∀ k,({ on:=k,ground:=.data } : Edge)∈_->listed.getD k false=true:=λk hk=>az _ hk rfl;obtain⟨rfl,dB⟩:=hH.all hr (by kernel_rfl);have av5:=hval 5 (by simp) (dB 5 (by simp) (by simp));have av6:=hval 6 (by simp) (dB 6 (by simp) (by simp));simp[Act.eval,iT,g8] at av5 av6;have kx:=Held.frame (D:=[0,1,2,6,3,4,5]) (dst:=g8) (a0:=a0) (m:=74) hH HM.out (λi hi=>dB i (by simp at hi |-; omega) (by simp at hi; omega)) (λi hi=>(oj i (by simp at hi |-; omega)).1);simp only[wpOp];simp[Region.wanted];refine .inl ?_;have rf:wY.frozen? ⟨zb,1,none⟩=false:=by simp[World.frozen?,rz]
          simp[Oper.wp,execOp,go_sem,av5,av6,r1,rf];refine⟨ut (λi hi=>?_) (by rw[Array.size_setIfInBounds]; exact hG.size),?_⟩
          ·by_cases hip:i=7
           ·subst hip;have hs:7<listed.size:=by rw[hG.size]; exact hi
            simp[Array.getD,hs]
           ·exact mO (dB i hi hip)
          ·rw[kx,lH.out];simp[lE,Act.put,iT,g8];clear kx hval b7 dB az hG hH;clear p0 p1 p2 p3 p4 r1 rf;have gX:=jq rz;clear rz;gi_wp2_with fail;go_roundw
           case measure=>simp[intOf] <;> omega
           case rel=>
            refine⟨j+1,A8,c8,by omega,by go_num,by simp[World.setCell]; omega,jq ?_,jq ?_,jq ?_⟩
            ·exact ((bO.out.trans (((Lr.out.mono (by omega)).trans ((du.out.mono (by omega)).trans (SE.out.mono (by omega)))).trans (H8.out.2.1.mono (by omega))))).setCell (by dsimp only; omega) _
            ·simp[World.setCell,Array.getElem?_modify,gX.out]
            ·rw[Ht.out];refine H8.out.1.leaves aN jc bN ⟨rfl,rfl,rfl,by simp[World.setCell],λi hi hm=>⟨λe=>hm ?_,wQ _ _ _ _ (λe=>hm (.inl (.inl (by rw[e]; exact bQ _))))⟩⟩ (λg hg=>⟨wQ _ _ _ _ (λe=>by have:=(H8.out.1.lt g hg).1; rw[e] at this; dsimp only at this; omega),.inr hg⟩);rcases e with e | e
             ·exact .inl (.inl e)
             ·exact .inr e
     ·obtain rfl:j=xn:=by omega
      have gY:Hid (sets.take j=sets):=jq (kQ (by rw[vu.out]; exact bQ _));rw[gY.out] at xS;have no:=bO.out;have gM:∀ g,(Value.slice vA m vc).ownBlock=some g->w6.heap.size<=g/\g<zb:=λg hg=>by have:=Ae.out.lt g hg; rw[rD.out] at this; exact this
      have EW:∀ g,(Value.slice zA j zc).ownBlock=some g->zb+1<=g/\g<wr.heap.size:=λg hg=>xS.out.lt g hg;have Of:Below W₂.heap.size W₂ wr:=by rw[rD.out]; exact no
      have OC:=(no.block W.heap.size tH).trans ml.out;have Ei:wr.cell? ⟨W.heap.size,0,none⟩=some (.int .i64 xh):=by simp[World.cell?,OC]
      have dz:=(no.block b jr).trans aB.out;have Ot:wr.cell? ⟨b,1,none⟩=some (.slice vA m vc):=by simp[World.cell?,dz]
      have baJ:wr.cell? ⟨zb,0,none⟩=some (.string xs):=by simp[World.cell?,gX.out]
      have baK:wr.cell? ⟨zb,1,none⟩=some (.slice zA j zc):=by simp[World.cell?,gX.out]
      obtain⟨M13,Oa⟩:∃ M13:Nat->Prop,M13=AtM b w6.heap.size (.slice vA m vc) (λk=>S k\/zb<=k):=⟨_,rfl⟩;have xO:Hid (∀ k,M13 k↔k=b\/(Value.slice vA m vc).ownBlock=some k\/¬ (S k\/zb<=k)):=jq (λk=>by rw[Oa]; exact Iff.rfl);have Df:Hid (bU jm 3 60 w6.heap.size M13 wr (.slice vA m vc) (pre.map λx:CV×Np.Copy=>Np.im x.2)):=jq (by
       have h1:=Ae.out.keep fV nR fW Of;refine h1.leaves fV nR fW ((Leaves'.refl _ wr).more (λk e=>.inl ?_)) (λg hg=>⟨rfl,(xO.out g).2 (.inr (.inl hg))⟩);rcases (xO.out k).1 e with e | e | e2
       ·exact .inl e
       ·exact .inr (.inl e)
       ·exact .inr (.inr (λhs=>e2 (.inl hs))))
      obtain⟨wX,nJ⟩:∃ wX,wr.alloc (.cells #[.int .i64 xh,.string xs,.slice zA j zc] 60)=wX:=⟨_,rfl⟩;have dP:Below wr.heap.size wr wX:=by rw[<-nJ]; exact (vQ _ _).alloc (bQ _) _
      have PV:wX.heap.size=wr.heap.size+1:=by rw[<-nJ]; simp
      have oY:Hid (cR wX wr.heap.size 0 [.int .i64 xh,.string xs,.slice zA j zc]):=jq (λi v hi=>by
       rw[<-nJ]
       match i,hi with
       | 0,hi=>cases hi; simp[go_sem]
       | 1,hi=>cases hi; simp[go_sem]
       | 2,hi=>cases hi; simp[go_sem]
       | i+3,hi=>simp at hi)
      have tc:Hid (jm (bj wX M13) wX.heap.size [.int .i64 xh,.string xs,.slice zA j zc] (Np.im cc)):=jq (by
       have h1:=xS.out.slr_sans (M':=M13) jc bN (λk hk=>by
        rcases (xO.out k).1 hk with e | e | e2
        ·exact⟨.inl (by omega),λe'=>by have:=EW k e'; omega⟩
        ·have h2:=gM k e;exact⟨.inl (by omega),λe'=>by have:=EW k e'; omega⟩
        ·have h3:¬ zb<=k:=λh=>e2 (.inr h);exact⟨.inl (by omega),λe'=>by have:=EW k e'; omega⟩) (by rw[vu.out]; omega)
       have h2:=(Leaves'.of_below (M:=M13) dP).slr aN jc bN h1;have e1:(Np.im cc)=⟨xh,cc.zone⟩:=by unfold Np.im; rw[<-p8.out.host]
       rw[e1];exact⟨xs,_,p8.out.apex,p8.out.size,by rw[ql.out]; exact h2,rfl⟩)
      have T8:=jq (Df.out.keep fV nR fW dP);have xD:=jq dP;have LF:=jq no;have Sx:=jq ((dP.block b (by omega)).trans dz);have LQ:=jq gM;clear Oa gM EW Of OC dz dP no;gi_wp2_with (first
       | (gi_at_builtin; refine R0 rfl (by intro c h; cases h) (by rintro⟨_,_,h⟩; exact h) ?_; refine zt (R:=jm) (M:=M13) wX rfl _ _ 32 rfl w6.heap.size 60 pi0 (.agg #[.int .i64 0,.string ⟨#[]⟩,.slice none 0 0]) 48 underlying32 Zg Zj Zk Zl rfl (by decide) (.slice vA m vc) _ rfl T8.out (some ⟨wr.heap.size,0,none⟩) 1 [Np.im cc] rfl (Ft rfl tc.out oY.out) aAQ (by rw[HM.out]; have:=uY.out; simp[maxLen]; omega) (by rw[HM.out]; have:=uY.out; simp; omega) (by omega) fV nR fW ?_; intro v8 wY bY aW eT; obtain⟨A8,c8,rfl⟩:=bY.formN (n:=m+1) (by rw[List.length_append,HM.out]; rfl); have qx:=(aW.block b (by omega) (λe=>by have:=(LQ.out b e.symm).1; omega)).trans Sx.out; have ip:=jq qx; have y1:wY.cell? ⟨b,1,none⟩=some (.slice vA m vc):=(by simp[World.cell?,qx]); have z1:wY.frozen? ⟨b,1,none⟩=false:=(by simp[World.frozen?,qx]); have PW:=aW.size; have H8:=jq (And.intro bY (And.intro aW eT)); clear bY aW eT qx; refine R2 ?_))
      have JQ:∀ k,(Value.slice A8 (m+1) c8).ownBlock=some k->(Value.slice vA m vc).ownBlock=some k\/wX.heap.size=k:=λk e=>by
       rcases H8.out.2.2 with h | h
       ·exact .inl (h ▸ e)
       ·rw[h] at e; exact .inr (Option.some.inj e)
      have JI:∀ k,(Value.slice A8 (m+1) c8).ownBlock=some k->w6.heap.size<=k/\k<wY.heap.size:=λk e=>H8.out.1.lt k e;obtain⟨W',hW'⟩:∃ W',wY.setCell ⟨b,1,none⟩ (.slice A8 (m+1) c8)=W':=⟨_,rfl⟩;have pT:W'.heap.size=wY.heap.size:=by rw[<-hW']; simp
      have gN:∀ k,k≠b->W'.heap[k]?=wY.heap[k]?:=λk hk=>by rw[<-hW']; exact wQ _ _ _ _ hk
      have XW:W'.heap[b]?=some (.cells #[.slice A5 n1 c5,.slice A8 (m+1) c8,.string s,.int .i64 ty,.int .i64 life,.slice A7 n3 c7,.slice A6 n4 c6] 34):=by rw[<-hW']; simp[World.setCell,Array.getElem?_modify,ip.out]
      have mw:Hid (RdStep (λk=>S k\/k=W.heap.size) W₂ W'):=jq (by
       rw[<-hW'];exact ((RdStep.of_below (S:=λk=>S k\/k=W.heap.size) (by rw[rD.out]; exact LF.out.trans (xD.out.mono (by omega)))).grown H8.out.2.1 (λk e=>.inl (.inl (Hs.out k e)))).setCell (.inl (.inl tf.out)) _)
      have jM:Hid (RdStep (λk=>k=b) w6 W'):=jq (by
       rw[<-hW'];exact ((Aj.out.then_below (by rw[rD.out]; exact LF.out.trans (xD.out.mono (by omega)))).grown H8.out.2.1 (λk e=>.inr (LQ.out k e).1)).setCell (.inl rfl) _)
      rw[hW'];refine⟨λk=>S k\/(zb<=k/\k<W'.heap.size),mw.out,λk e=>?_,λk e=>?_,.slice A8 (m+1) c8,.inl tf.out,λg hg=>?_,λk e=>?_,XW,?_,jM.out⟩
      ·rcases e with e | e
       ·exact .inl (.inl e)
       ·right; rw[rD.out]; exact e.1
      ·rcases e with e | e
       ·have:=vj.out k e; rw[rD.out] at this; omega
       ·exact e.2
      ·rcases JQ g hg with e | e
       ·exact .inl (Hs.out g e)
       ·right; have:=(JI g hg).2; omega
      ·rcases e with e | e
       ·exact eO.out k e
       ·right; omega
      ·rw[List.map_append];refine H8.out.1.leaves fV nR fW ⟨by rw[<-hW']; rfl,by rw[<-hW']; rfl,by rw[<-hW']; rfl,by omega,λi hi hm=>⟨λe=>hm ?_,gN i (λe=>hm (.inl ((xO.out i).2 (.inl e))))⟩⟩ (λg hg=>⟨gN g (λe=>by have:=(JI g hg).1; omega),.inr (.inl hg)⟩);rcases e with e | e | e2
       ·exact .inl ((xO.out i).2 (.inl e))
       ·exact .inr e
       ·exact .inl ((xO.out i).2 (.inr (.inr (λh=>e2 (by
         rcases h with h | h
         ·exact .inl h
         ·exact .inr ⟨h,by omega⟩)))))
end
end Go.Proofs.YtbfbobfbgabjiaaGreatDoor
