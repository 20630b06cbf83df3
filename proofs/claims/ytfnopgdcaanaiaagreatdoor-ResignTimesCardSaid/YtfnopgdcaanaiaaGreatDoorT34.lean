/- Parts of the proof. No condition. -/
import Derived.Test.YtfnopgdcaanaiaaGreatDoorT30
set_option linter.all false
set_option maxRecDepth 100000
set_option maxHeartbeats 8000000
namespace Go.Proofs.YtfnopgdcaanaiaaGreatDoor
open Go.Proofs.Tryz
section
open Go.RowKit Go.Shelf
attribute [local go_sem] Oper.semAt_some
theorem Lk{P:Program}{fn:Func}{p:Tmp}{ty:TypeId}(h:fn.results = #[.cell p ty])(tmps:Array Value)(w:World)(g:Nat)(v:Value)(hp:tmps.getD p undef = .pointer (some ⟨g,0,none⟩))(hl:(loadVar ty ⟨g,0,none⟩).run P w = .ok v w) :
 (results fn tmps).run P w = .ok v w:=by
 have hp':tmps[p]?.getD undef = .pointer (some ⟨g,0,none⟩):=by simpa using hp
 simp[results,h,hp',asAddr,hl]
theorem EX(s:ByteArray)(ty:Int)(t:ByteArray)(n m life:Int)(B:Nat)(w:World)(hB:w.cell? ⟨B,0,none⟩=some (.int .i64 life))(o6:B<w.heap.size) :
 Calls prog 95 #[.string s,.int .i64 ty,.agg #[.string t,.int .i64 n,.int .i64 m],.pointer (some ⟨B,0,none⟩)] w
  λe w'=>∃ D,e = .returned (.agg #[.string s,.int .i64 ty,.int .i64 life,.slice (some ⟨D,0,none⟩) 1 1,.slice none 0 0])/\w.heap.size<=D/\D<w'.heap.size/\dM w' D [.string t,.int .i64 n,.int .i64 m]/\Below w.heap.size w w':=by
 have Y9:¬ B=w.heap.size:=by omega
 have Za:¬ B=w.heap.size+1:=by omega
 have Y8:B<w.heap.size+1:=by omega
 go_enter func95,ntmps95;go_wp2_with fail;obtain⟨wa,gg⟩:=abY (w.alloc (.cells #[.string t,.int .i64 n,.int .i64 m] 128));rw[gg];obtain⟨o2,dK⟩:=abY (Obj.cells #[.string s,.int .i64 ty,.int .i64 life,.slice (some ⟨w.heap.size+1+1,0,none⟩) 1 1,.slice none 0 0] 42);rw[dK];obtain⟨o3,gb⟩:=abY (Obj.cells #[.string t,.int .i64 n,.int .i64 m] 128);rw[gb];have eO:Below w.heap.size w wa:=by rw[<-gg];exact (vQ _ _).alloc (bQ _) _
 have wW:wa.heap.size=w.heap.size+1:=by rw[<-gg];simp
 obtain⟨h1,h2,h3,h4⟩:=l9 wa o2 o3;have h2':((wa.alloc o2).alloc o3).heap[wa.heap.size]?=some o2:=h2;have h3':((wa.alloc o2).alloc o3).heap[wa.heap.size+1]?=some o3:=h3;rw[wW] at h2' h3';have h2':=h2'.trans (Qd some dK.symm);have h3':=h3'.trans (Qd some gb.symm);have sL:=run_loadVar_row (P:=prog) _ _ 42 42 _ (0,0) _ h2' underlying42 rfl (by kernel_rfl);refine bodyPost_ret (Lk rfl _ _ _ _ rfl sL) rfl ?_;refine⟨w.heap.size+1+1,rfl,by omega,?_,jz [_,_,_] h3',eO.trans ?_⟩
 ·have:((wa.alloc o2).alloc o3).heap.size=wa.heap.size+2:=h1
  omega
 ·exact ((vQ _ _).alloc (by omega) _).alloc (by simp;omega) _
end
section
open Go.RowKit Go.Shelf
def xB:ByteArray:=⟨#[120]⟩
def Np.oj(ty lf:Int)(d:Np.Datum):Np.Signed:=⟨⟨[120],ty,lf,[d]⟩,[]⟩
def Np.gk(lf:Int):List Np.Signed:=[Np.oj 2 lf ⟨[97],0,0⟩,Np.oj 4 lf ⟨[],1,0⟩,Np.oj 7 lf ⟨[],1,1⟩]
def Np.gl(ts:List Int)(en:Int)(i:Nat):Int:=if i+1<ts.length then ts.getD (i+1) 0 else en
def Np.lZ(len d lf t:Int):List Np.Signed:=(Np.gk lf).map (Np.l5 xB (t - d) (t+len))
def Np.mS(ts:List Int)(en len d lf:Int)(i:Nat):Np.Copy:=⟨0,ts.getD i 0,Np.gl ts en i,⟨[120],Np.lZ len d lf (ts.getD i 0)⟩⟩
def Np.km(ts:List Int)(en len d lf:Int)(k:Nat):List Np.Copy:=(List.range k).map (Np.mS ts en len d lf)
def Np.eV(ts:List Int)(en len d lf:Int):Np.Hist:=⟨[⟨[97],1,0⟩],Np.km ts en len d lf ts.length,⟨[46],6,0,[⟨[],1,1⟩]⟩,[1],d,en⟩
theorem Np.V0(ts:List Int)(en len d lf:Int)(k:Nat):Np.km ts en len d lf (k+1)=Np.km ts en len d lf k ++ [Np.mS ts en len d lf k]:=by simp[Np.km,List.range_succ]
theorem Np.xp(ts:List Int)(en len d lf:Int)(k:Nat):(Np.km ts en len d lf k).length=k:=by simp[Np.km]
theorem Tryz.infoCopyT:(prog.info? 46).map (λi=>(i.zero,i.size,i.bytes))=some (some (.agg #[.int .i64 0,.int .i64 0,.int .i64 0,.string ⟨#[]⟩,.slice none 0 0]),5,64):=by kernel_rfl
theorem WB:∀ (w:World) (B:Nat) (r:List Value) (y:Np.Copy),jx w B r y->∀ u∈r,u.oneCell'=true:=λw B r y ⟨s,v,_,_,h3,h5⟩ u hu=>by
 obtain⟨A,c,rfl,_⟩:=ar h3;subst h5;simp at hu;rcases hu with rfl | rfl | rfl | rfl | rfl <;> rfl
def eJ(b2 hb X m:Nat)(xs:List Np.Copy)(w:World)(v:Value):Prop:=
 m<=w.heap.size/\∃ M:Nat->Prop,bh jx 5 46 b2 M w v xs/\M hb/\M X/\∀ q,M q->q<m
theorem eJ.nil{b2 hb X m:Nat}{w:World}(h1:hb<m)(h2:X<m)(hm:m<=w.heap.size):eJ b2 hb X m [] w (.slice none 0 0):=
 ⟨hm,λq=>q=hb\/q=X,bh.nil w,.inl rfl,.inr rfl,λq e=>by omega⟩
theorem eJ.keep{b2 hb X m:Nat}{xs:List Np.Copy}{w w':World}{v:Value}(h:eJ b2 hb X m xs w v)(hb':Below w.heap.size w w'):eJ b2 hb X m xs w' v:=by
 obtain⟨h1,M,h2,h3,h4,h5⟩:=h;exact⟨yQ h1 hb'.size,M,h2.keep mV Bj rx hb',h3,h4,h5⟩
theorem eJ.more{b2 hb X m m':Nat}{xs:List Np.Copy}{w:World}{v:Value}(h:eJ b2 hb X m xs w v)(hm:m<=m')(hs:m'<=w.heap.size):eJ b2 hb X m' xs w v:=by
 obtain⟨h1,M,h2,h3,h4,h5⟩:=h;exact⟨hs,M,h2,h3,h4,λq e=>by have:=h5 q e;omega⟩
theorem eJ.set{b2 hb X m:Nat}{xs:List Np.Copy}{w:World}{v:Value}(h:eJ b2 hb X m xs w v){p:Addr}(hp:p.block=hb\/p.block=X)(aa:p.block<b2)(u:Value):eJ b2 hb X m xs (w.setCell p u) v:=by
 obtain⟨h1,M,h2,h3,h4,h5⟩:=h;have hM:M p.block:=by rcases hp with e | e <;> rw[e] <;> assumption
 refine⟨by simpa [World.setCell] using h1,M,h2.leaves mV Bj rx (Leaves'.setCell M w hM u) (λg hg=>⟨wQ _ _ _ _ (λe=>by have:=(h2.lt g hg).1;omega),?_⟩),h3,h4,h5⟩;obtain⟨_,_,_,h6,_⟩:=h2;exact h6 g hg
theorem eJ.form{b2 hb X m:Nat}{xs:List Np.Copy}{w:World}{v:Value}(h:eJ b2 hb X m xs w v):∃ A c,v = .slice A xs.length c:=by
 obtain⟨_,M,h2,_⟩:=h;exact h2.form
theorem eJ.slr{b2 hb X m:Nat}{xs:List Np.Copy}{w:World}{v:Value}(h:eJ b2 hb X m xs w v)(hl:xs.length<=140737488355328):SlR jx 5 w w.heap.size v xs:=by
 obtain⟨_,M,h2,_⟩:=h;exact h2.slr Bj hl
theorem eJ.app{b2 hb X m:Nat}{xs:List Np.Copy}{w:World}{A:Option Addr}{n c:Nat}(h:eJ b2 hb X m xs w (.slice A n c))(ty:TypeId)(q:Nat)(t u:Int)(sv:Value)(ss:List Np.Signed)(hq:dM w q [.int .i64 0,.int .i64 t,.int .i64 u,.string xB,sv])
 (hs:bw cU 5 0 m w sv ss) (hl:xs.length<=1000) (ab:b2<=w.heap.size) :
 ∃ v' w',(Builtin.append_ #[23,23] ty #[.slice A n c,.slice (some ⟨q,0,none⟩) 1 1]).run prog w = .ok v' w'/\eJ b2 hb X w'.heap.size (xs ++ [⟨0,t,u,⟨[120],ss⟩⟩]) w' v'/\w.heap.size<=w'.heap.size/\Below b2 w w':=by
 obtain⟨h1,M,h2,h3,h4,h5⟩:=h;obtain⟨i0,hi,bd,aK,aC⟩:=info_parts Tryz.infoCopyT;have hrow:qx jx 5 M w (some ⟨q,0,none⟩) [(⟨0,t,u,⟨[120],ss⟩⟩:Np.Copy)]:=E1 (r:=[.int .i64 0,.int .i64 t,.int .i64 u,.string xB,sv]) rfl ⟨xB,sv,rfl,by decide,hs M (λk e=>⟨jQ _,h5 k e⟩),rfl⟩ (λj v hj=>by rw[Nat.zero_add];exact hq j v hj);obtain⟨v',w',hr,ho,hg,hat⟩:=Lu (P:=prog) w 23 ty b2 46 i0 (.agg #[.int .i64 0,.int .i64 0,.int .i64 0,.string ⟨#[]⟩,.slice none 0 0]) 64 underlying23 hi bd aK aC rfl (by decide) _ xs h2 (some ⟨q,0,none⟩) 1 [⟨0,t,u,⟨[120],ss⟩⟩] hrow WB (by simp[maxLen];omega) (by simp;omega) ab mV Bj rx;have aa:∀ g,(Value.slice A n c).ownBlock=some g->b2<=g:=λg e=>(h2.lt g e).1;have Jw:=hg.size;refine⟨v',w',hr,⟨bQ _,_,ho,.inl h3,.inl h4,λk e=>?_⟩,Jw,(vQ _ _).grown hg ab aa⟩;rcases e with e | e
 ·have:=h5 k e;omega
 ·exact (ho.lt k e).2
theorem C5{n D:Nat}{w:World}{t:ByteArray}{a b:Int}(ht:t.size<=140737488355328)(hD:n<=D)(aa:D<w.heap.size)(hc:dM w D [.string t,.int .i64 a,.int .i64 b]):bw bI 3 0 n w (.slice (some ⟨D,0,none⟩) 1 1) [⟨t.data.toList,a,b⟩]:=λM hM=>by
 refine⟨_,1,rfl,bQ _,by simp,λi x hx=>?_⟩
 match i,hx with
 | 0,hx=>
  simp at hx;subst hx;refine⟨D,0,_,rfl,aa,rfl,λj v hj=>?_,t,rfl,ht,rfl⟩;rw[E3 (λe=>by have:=(hM _ e).2;dsimp only at this;omega),show 0+0 * 3+j=j by omega];exact hc j v hj
 | i+1,hx=>simp at hx
theorem C4{α:Type}{R:agJ α}{sz n:Nat}{w:World}{v:Value}{xs:List α}(h:bw R sz 0 n w v xs)(hs:ef R):SlR R sz w w.heap.size v xs:=bw.all h hs
theorem V3{G D1 D2 D3:Nat}{lf:Int}{w:World}(hG:dM w G [.string ⟨#[120]⟩,.int .i64 2,.int .i64 lf,.slice (some ⟨D1,0,none⟩) 1 1,.slice none 0 0,.string ⟨#[120]⟩,.int .i64 4,.int .i64 lf,.slice (some ⟨D2,0,none⟩) 1 1,.slice none 0 0,.string ⟨#[120]⟩,.int .i64 7,.int .i64 lf,.slice (some ⟨D3,0,none⟩) 1 1,.slice none 0 0])
 (hg:G<w.heap.size) (h1:D1<w.heap.size) (h2:D2<w.heap.size) (h3:D3<w.heap.size) (c1:dM w D1 [.string ⟨#[97]⟩,.int .i64 0,.int .i64 0]) (c2:dM w D2 [.string ⟨#[]⟩,.int .i64 1,.int .i64 0]) (c3:dM w D3 [.string ⟨#[]⟩,.int .i64 1,.int .i64 1]) :
 SlR cU 5 w w.heap.size (.slice (some ⟨G,0,none⟩) 3 3) (Np.gk lf):=by
 have e1:=C4 (C5 (n:=0) (by decide) (jQ _) h1 c1) gO;have e2:=C4 (C5 (n:=0) (by decide) (jQ _) h2 c2) gO;have e3:=C4 (C5 (n:=0) (by decide) (jQ _) h3 c3) gO;refine⟨_,3,rfl,bQ _,by simp[Np.gk],λi x hx=>?_⟩
 match i,hx with
 | 0,hx=>
  simp[Np.gk] at hx;subst hx;refine⟨G,0,[.string ⟨#[120]⟩,.int .i64 2,.int .i64 lf,.slice (some ⟨D1,0,none⟩) 1 1,.slice none 0 0],rfl,hg,rfl,λj v hj=>?_,⟨#[120]⟩,_,_,rfl,by decide,e1,xD _ _ _ _,rfl⟩;have ZT:=(cQ.1 hj).1
  match j,hj with
  | 0,hj=>exact hG 0 _ hj
  | 1,hj=>exact hG 1 _ hj
  | 2,hj=>exact hG 2 _ hj
  | 3,hj=>exact hG 3 _ hj
  | 4,hj=>exact hG 4 _ hj
  | j+5,hj=>simp at hj
 | 1,hx=>
  simp[Np.gk] at hx;subst hx;refine⟨G,0,[.string ⟨#[120]⟩,.int .i64 4,.int .i64 lf,.slice (some ⟨D2,0,none⟩) 1 1,.slice none 0 0],rfl,hg,rfl,λj v hj=>?_,⟨#[120]⟩,_,_,rfl,by decide,e2,xD _ _ _ _,rfl⟩
  match j,hj with
  | 0,hj=>exact hG 5 _ hj
  | 1,hj=>exact hG 6 _ hj
  | 2,hj=>exact hG 7 _ hj
  | 3,hj=>exact hG 8 _ hj
  | 4,hj=>exact hG 9 _ hj
  | j+5,hj=>simp at hj
 | 2,hx=>
  simp[Np.gk] at hx;subst hx;refine⟨G,0,[.string ⟨#[120]⟩,.int .i64 7,.int .i64 lf,.slice (some ⟨D3,0,none⟩) 1 1,.slice none 0 0],rfl,hg,rfl,λj v hj=>?_,⟨#[120]⟩,_,_,rfl,by decide,e3,xD _ _ _ _,rfl⟩
  match j,hj with
  | 0,hj=>exact hG 10 _ hj
  | 1,hj=>exact hG 11 _ hj
  | 2,hj=>exact hG 12 _ hj
  | 3,hj=>exact hG 13 _ hj
  | 4,hj=>exact hG 14 _ hj
  | j+5,hj=>simp at hj
 | i+3,hx=>simp[Np.gk] at hx
theorem eJ.sets{b2 hb X m:Nat}{xs:List Np.Copy}{v:Value}(hX:X<b2):∀ (vs:List Value) (o:Nat) {w:World},eJ b2 hb X m xs w v->eJ b2 hb X m xs (w.setCells X o vs) v
 | [],_,_,h=>h
 | u::vs,o,_,h=>eJ.sets hX vs (o+1) (h.set (p:=⟨X,o,none⟩) (.inr rfl) hX u)
theorem dM.sets{D X:Nat}{l:List Value}(hne:X≠D):∀ (vs:List Value) (o:Nat) {w:World},dM w D l->dM (w.setCells X o vs) D l
 | [],_,_,h=>h
 | u::vs,o,w,h=>dM.sets hne vs (o+1) (λi v hi=>(World.cell?_setCell_far w ⟨X,o,none⟩ ⟨D,i,none⟩ u hne).trans (h i v hi))
theorem Hm{B X:Nat}{a:World}(hB:B<=X):∀ (vs:List Value) (o:Nat) {w:World},Below B a w->Below B a (w.setCells X o vs)
 | [],_,_,h=>h
 | u::vs,o,_,h=>Hm hB vs (o+1) (h.setCell (p:=⟨X,o,none⟩) hB u)
theorem LG(X:Nat):∀ (vs:List Value) (o:Nat) (w:World),(w.setCells X o vs).heap.size=w.heap.size
 | [],_,_=>rfl
 | u::vs,o,w=>(LG X vs (o+1) _).trans (by simp[World.setCell])
theorem E5{α:Type}{R:agJ α}{sz:Nat}{w:World}{D:Nat}{l:List Value}{x:α}(hc:dM w D l)(hl:l.length=sz)(hD:D<w.heap.size)(hr:R w w.heap.size l x):SlR R sz w w.heap.size (.slice (some ⟨D,0,none⟩) 1 1) [x]:=by
 refine⟨_,1,rfl,bQ _,by simp,λi y hy=>?_⟩
 match i,hy with
 | 0,hy=>
  simp at hy;subst hy;refine⟨D,0,l,rfl,hD,hl,λj v hj=>?_,hr⟩;rw[show 0+0 * sz+j=j by omega];exact hc j v hj
 | i+1,hy=>simp at hy
end
section
open Go.RowKit Go.Shelf
attribute [local go_sem] Oper.semAt_some
theorem V6(ts:List Int)(en len d lf:Int)(n:Nat)(hn:ts.length=n)(sP:n<=100)(vr:0<=d)(ke:d<=1000)(nT:0<=len)(cu:len<=10000000)(ZN:0<=en)(ej:en<=10000000)(oe:∀ t∈ts,d<=t/\t<=10000000)
 (wM:∀ t∈ts,Np.pT (t - d) (t+len)=true) (jh:∀ t∈ts,∀ x∈Np.gk lf,Np.oq x.set xB xB 1 1 (t - d) (t+len)=true) (fB:Np.VZone ⟨[120],Np.gk lf⟩)
 (A:Option Addr) (c:Nat) (w:World) (hR:dS w w.heap.size) (hT:SlR eK 1 w w.heap.size (.slice A n c) ts) :
 Calls prog 47 #[.slice A n c,.int .i64 en,.int .i64 len,.int .i64 d,.int .i64 lf] w
  λe w'=>∃ l:List Value,e = .returned (.agg l.toArray)/\oS w' w'.heap.size l (Np.eV ts en len d lf)/\Below w.heap.size w w':=by
 have HT:=jq hT;have HR:=jq hR;have rW:=jq oe;have HW:=jq wM;have dO:=jq jh;have ky:=jq fB;have HN:=jq hn;obtain⟨X,hX⟩:=abY w.heap.size;clear hT hR oe wM jh fB hn;go_enter func47,ntmps47;go_upto_region 2 with fail
 obtain⟨w2,az⟩:=abY ((w.alloc (.cells #[.int .i64 lf] 3)).alloc (.cells #[.slice none 0 0,.slice none 0 0,.string ⟨#[]⟩,.int .i64 0,.int .i64 0,.slice none 0 0,.slice none 0 0,.int .i64 0,.int .i64 0] 29));rw[az];obtain⟨wb,lS⟩:=abY (w.alloc (.cells #[.int .i64 lf] 3));rw[lS] at az;have lW:wb.heap.size=X+1:=by rw[<-lS,<-hX];simp
 have aC:w2.heap.size=X+2:=by rw[<-az];simp[lW]
 have nG:Below w.heap.size w wb:=by rw[<-lS];exact (vQ _ _).alloc (bQ _) _
 have ab:Below wb.heap.size wb w2:=by rw[<-az];exact (vQ _ _).alloc (bQ _) _
 have ai:=jq (nG.trans (ab.acJ));have qu:Hid (dM w2 X [.int .i64 lf]):=jq ((ft [.int .i64 lf] 3 hX lS).keep ab (by omega));have N6:Hid (w2.heap[X+1]?=some (.cells #[.slice none 0 0,.slice none 0 0,.string ⟨#[]⟩,.int .i64 0,.int .i64 0,.slice none 0 0,.slice none 0 0,.int .i64 0,.int .i64 0] 29 (0,0))):=jq (by rw[<-az,<-lW];exact heap_alloc_new _ _);clear az lS nG ab;go_wp2_with fail;refine (EX ⟨#[120]⟩ 2 ⟨#[97]⟩ 0 0 lf X w2 (qu.out 0 _ rfl) (by omega)).mono ?_;rintro e w3 ⟨D1,rfl,mw,Zb,aT,ae⟩;have gh:=ae.size;have yI:=jq (qu.out.keep ae (by omega));have N7:=jq ((ae.block (X+1) (by omega)).trans N6.out);have ay:=aaK ai ae;have cT:=jq aT;clear ae aT;go_wp2_with fail;refine (EX ⟨#[120]⟩ 4 ⟨#[]⟩ 1 0 lf X w3 (yI.out 0 _ rfl) (by omega)).mono ?_;rintro e w4 ⟨D2,rfl,Zc,Zd,dZ,ah⟩;have gX:=ah.size;have rY:=jq (yI.out.keep ah (by omega));have uf:=jq ((ah.block (X+1) (by omega)).trans N7.out);have bl:=aaK ay ah;have Nr:=jq (cT.out.keep ah (by omega));have de:=jq dZ;clear ah dZ;go_wp2_with fail;refine (EX ⟨#[120]⟩ 7 ⟨#[]⟩ 1 1 lf X w4 (rY.out 0 _ rfl) (by omega)).mono ?_;rintro e w5 ⟨D3,rfl,Ze,Zf,lL,aA⟩;have jo:=aA.size;have N8:=jq ((aA.block (X+1) (by omega)).trans uf.out);have db:=aaK bl aA;have Ns:=jq (Nr.out.keep aA (by omega));have Nu:=jq (de.out.keep aA (by omega));have Nw:=jq lL;clear aA lL;go_upto_region 3 with fail
 obtain⟨G,hG⟩:=abY w5.heap.size;simp only[hG];obtain⟨wr6,wO⟩:=abY (w5.alloc (.cells #[.string ⟨#[120]⟩,.int .i64 2,.int .i64 lf,.slice (some ⟨D1,0,none⟩) 1 1,.slice none 0 0,.string ⟨#[120]⟩,.int .i64 4,.int .i64 lf,.slice (some ⟨D2,0,none⟩) 1 1,.slice none 0 0,.string ⟨#[120]⟩,.int .i64 7,.int .i64 lf,.slice (some ⟨D3,0,none⟩) 1 1,.slice none 0 0] 42));rw[wO];obtain⟨w6,bB⟩:=abY (wr6.alloc (.cells #[.string ⟨#[120]⟩,.slice (some ⟨G,0,none⟩) 3 3] 44));rw[bB];have Kp:wr6.heap.size=G+1:=by rw[<-wO];simp[hG]
 have kj:w6.heap.size=G+2:=by rw[<-bB];simp[Kp]
 have Jb:Below w5.heap.size w5 wr6:=by rw[<-wO];exact (vQ _ _).alloc (bQ _) _
 have aI:Below wr6.heap.size wr6 w6:=by rw[<-bB];exact (vQ _ _).alloc (bQ _) _
 have sA:=Jb.trans (aI.acJ);have yq:=jq ((ft _ _ hG wO).keep aI (by omega));have G4:=jq (ft _ _ Kp bB);have N9:=jq ((sA.block (X+1) (by omega)).trans N8.out);have dB:=aaK db sA;have Nt:=jq (Ns.out.keep sA (by omega));have Nv:=jq (Nu.out.keep sA (by omega));have Nx:=jq (Nw.out.keep sA (by omega));clear sA aI Jb bB wO;go_upto_region 4 with fail
 obtain⟨wx,wP⟩:=abY (w6.alloc (.cells #[.string ⟨#[97]⟩,.int .i64 1,.int .i64 0] 101));rw[wP];obtain⟨wy,wR⟩:=abY (wx.alloc (.cells #[.string ⟨#[]⟩,.int .i64 1,.int .i64 1] 128));rw[wR];obtain⟨wz,re⟩:=abY (wy.alloc (.cells #[.int .i64 1] 3));rw[re];obtain⟨w8,gI⟩:=abY (wz.alloc (.cells #[.slice (some ⟨G+2,0,none⟩) 1 1,.slice none 0 0,.string ⟨#[46]⟩,.int .i64 6,.int .i64 0,.slice (some ⟨G+2+1,0,none⟩) 1 1,.slice (some ⟨G+2+1+1,0,none⟩) 1 1,.int .i64 d,.int .i64 en] 29));rw[gI];have Kq:wx.heap.size=G+2+1:=by rw[<-wP];simp[kj]
 have Kr:wy.heap.size=G+2+1+1:=by rw[<-wR];simp[Kq]
 have rj:wz.heap.size=G+2+1+1+1:=by rw[<-re];simp[Kr]
 have rg:w8.heap.size=G+6:=by rw[<-gI];simp[rj]
 have bx:Below w6.heap.size w6 wx:=by rw[<-wP];exact (vQ _ _).alloc (bQ _) _
 have by':Below wx.heap.size wx wy:=by rw[<-wR];exact (vQ _ _).alloc (bQ _) _
 have bz:Below wy.heap.size wy wz:=by rw[<-re];exact (vQ _ _).alloc (bQ _) _
 have b8:Below wz.heap.size wz w8:=by rw[<-gI];exact (vQ _ _).alloc (bQ _) _
 have bz8:Below wy.heap.size wy w8:=bz.trans (b8.acJ);have by8:Below wx.heap.size wx w8:=by'.trans (bz8.acJ)
 have b68:Below w6.heap.size w6 w8:=bx.trans (by8.acJ);have Od:Hid (dM w8 (G+2) [.string ⟨#[97]⟩,.int .i64 1,.int .i64 0]):=jq ((ft _ _ kj wP).keep by8 (by omega));have NE:Hid (dM w8 (G+2+1) [.string ⟨#[]⟩,.int .i64 1,.int .i64 1]):=jq ((ft _ _ Kq wR).keep bz8 (by omega));have oD:Hid (dM w8 (G+2+1+1) [.int .i64 1]):=jq ((ft _ _ Kr re).keep b8 (by omega));have Oc:Hid (w8.heap[G+5]?=some (.cells #[.slice (some ⟨G+2,0,none⟩) 1 1,.slice none 0 0,.string ⟨#[46]⟩,.int .i64 6,.int .i64 0,.slice (some ⟨G+2+1,0,none⟩) 1 1,.slice (some ⟨G+2+1+1,0,none⟩) 1 1,.int .i64 d,.int .i64 en] 29 (0,0))):=jq (by rw[<-gI,show G+5=wz.heap.size by omega];exact heap_alloc_new _ _);have YY:=jq (yq.out.keep b68 (by omega));have Pp:=jq (G4.out.keep b68 (by omega));have Oa:=jq ((b68.block (X+1) (by omega)).trans N9.out);have eX:=aaK dB b68;have ly:=jq (V3 yq.out (by omega) (by omega) (by omega) (by omega) Nt.out Nv.out Nx.out);have MT:=jq b68;clear bx by' bz b8 bz8 by8 b68 wP wR re gI
 go_wp2_with fail;go_loopw [42] (λi wr=>∃ k:Nat,k<=n/\i = .int .i64 k/\Hid (Below (G+5) w8 wr)/\G+6<=wr.heap.size/\∃ v:Value,Hid (eJ (G+6) (G+5) (X+1) wr.heap.size (Np.km ts en len d lf k) wr v)/\Hid (wr.heap[G+5]?=some (.cells #[.slice (some ⟨G+2,0,none⟩) 1 1,v,.string ⟨#[46]⟩,.int .i64 6,.int .i64 0,.slice (some ⟨G+2+1,0,none⟩) 1 1,.slice (some ⟨G+2+1+1,0,none⟩) 1 1,.int .i64 d,.int .i64 en] 29 (0,0)))) (λi _=>n - (intOf i).toNat)
 case atStart=>exact⟨0,by omega,rfl,jq (vQ _ _),by omega,_,jq (eJ.nil (by omega) (by omega) (bQ _)),Oc⟩
 case round=>
  obtain⟨k,hk,rfl,bH,RE,v,HP,Cg⟩:=hrel;obtain⟨ws,rfl⟩:=acQ wr;obtain⟨cA,cc,hcv⟩:=HP.out.form;subst hcv;rw[Np.xp] at HP Cg;have nS:(k:Int)<=n:=by omega
  have yd:=aaK eX bH.out;have qn:=jq (HT.out.later g9 l4 yd.out);by_cases aa:k<n
  ·obtain⟨t,ht⟩:∃ t,ts[k]?=some t:=⟨_,aQ (by rw[HN.out];exact aa)⟩;obtain⟨tb,tq,rfl,TE,t0⟩:=rl qn.out ht;have od:=gQ ht;have Zu:=rW.out t od;obtain⟨un,fk⟩:=abY (Np.gl ts en k);have qo:=jq fk;have CH:=jq ht;have CJ:=jq od;have cN:(0:Int)<=(k:Int):=by omega
   have cO:(k:Int)<n:=by omega
   clear ht od fk aa;go_upto_if 52 with fail
   clear t0;go_cut [16] from 53 to 57 (λvu wx=>vu = .int .i64 un/\wx=ws)
   case first=>
    by_cases fi:k+1<n
    ·obtain⟨t2,mG⟩:∃ t2,ts[k+1]?=some t2:=⟨_,aQ (by rw[HN.out];exact fi)⟩;obtain⟨tb2,tq2,nD,aeQ,t02⟩:=rl qn.out mG;simp only[Option.some.injEq,Addr.mk.injEq,true_and,and_true] at nD;obtain⟨rfl,rfl⟩:=nD;have HE:Hid (t2=un):=jq (by rw[<-qo.out];unfold Np.gl;rw[HN.out,Qb fi,List.getD_eq_getElem?_getD,mG];rfl);have iO:(k:Int)+1<n:=by omega
     have gV:(0:Int)<=(k:Int)+1:=by omega
     have t03:ws.cell? ⟨tb,tq+((k:Int)+1).toNat,none⟩=some (.int .i64 t2):=by rw[show ((k:Int)+1).toNat=k+1 by omega];exact t02
     clear mG fi;go_wp2_with fail;go_meet;exact⟨by rw[HE.out],rfl⟩
    ·have HE:Hid (en=un):=jq (by rw[<-qo.out];unfold Np.gl;rw[HN.out,Qc fi]);have iO:¬ (k:Int)+1<n:=by omega
     clear fi;go_wp2_with fail;go_meet;exact⟨by rw[HE.out],rfl⟩
   case rest=>
   obtain⟨rfl,rfl⟩:=hcut;obtain⟨wv,rfl⟩:=acQ wc;have adX:=bH.out.size;have CT:=Pp.out.keep bH.out (by omega);have z0:=CT 0 _ rfl;have z1:=CT 1 _ rfl;obtain⟨wk,AM⟩:=abY (wv.alloc (.cells #[.int .i64 1,.int .i64 1] 161));have iM:Below wv.heap.size wv wk:=by rw[<-AM];exact (vQ _ _).alloc (bQ _) _
   have hzk:wk.heap.size=wv.heap.size+1:=by rw[<-AM];simp
   have IU:=ft [.int .i64 1,.int .i64 1] 161 rfl AM;have k0:=IU 0 _ rfl;have k1:=IU 1 _ rfl;have yb:=jq (yd.out.trans (iM.mono (by have:=yd.out.size;omega)));have OW:=jq (HP.out.keep iM);have Oh:=jq ((iM.block (G+5) (by omega)).trans Cg.out);have FG:=aaK bH iM;have OT:=jq (ly.out.later da gm (MT.out.trans (FG.out.acJ)));have Zm:G+1<wv.heap.size:=by omega
   clear iM CT;go_wp2_with fail;clear AM z0 z1;have DM:=CJ.out;refine (Xb ⟨#[120]⟩ (by decide) (Np.gk lf) rfl (λs hs=>by simp[Np.gk,Np.oj] at hs;rcases hs with rfl | rfl | rfl <;> rfl) ky.out (t - d) (t+len) (HW.out t DM) (dO.out t DM) _ 3 _ wk ((HR.out.keep yb.out).more yb.out.size) OT.out (by omega) k0 k1).mono ?_;rintro e w9 ⟨sv,rfl,has,bi⟩;have wV:=bi.size;obtain⟨zA,zc,rfl⟩:=has.form;rw[show ((Np.gk lf).map (Np.l5 ⟨#[120]⟩ (t - d) (t+len))).length=3 from rfl] at has |-;have HAS:=jq has;have eb:=jq (yb.out.trans (bi.mono yb.out.size));have OQ:=jq (OW.out.keep bi);have F6:=jq ((bi.block (G+5) (by omega)).trans Oh.out);have MR:=aaK FG bi;clear has bi k0 k1 DM;go_upto_region 11 with fail
   obtain⟨wq,wN⟩:=abY (w9.alloc (.cells #[.string ⟨#[120]⟩,.slice zA 3 zc] 44));rw[wN];have DX:Below w9.heap.size w9 wq:=by rw[<-wN];exact (vQ _ _).alloc (bQ _) _
   have T9:wq.heap.size=w9.heap.size+1:=by rw[<-wN];simp
   have hQ:=ft [.string ⟨#[120]⟩,.slice zA 3 zc] 44 rfl wN;have y0:=hQ 0 _ rfl;have y1:=hQ 1 _ rfl;have Oi:=jq ((DX.block (G+5) (by omega)).trans F6.out);have h1:=jz [_,_,_,_,_,_,_,_,_] Oi.out 1 _ rfl;obtain⟨wp,AO⟩:=abY (wq.alloc (.cells #[.int .i64 0,.int .i64 t,.int .i64 un,.string ⟨#[120]⟩,.slice zA 3 zc] 46));have Ja:Below wq.heap.size wq wp:=by rw[<-AO];exact (vQ _ _).alloc (bQ _) _
   have hzp:wp.heap.size=wq.heap.size+1:=by rw[<-AO];simp
   have vW:=DX.trans (Ja.acJ);obtain⟨v2,wj,eE,sV,T8,ka⟩:=(OQ.out.keep vW).app 23 (w9.heap.size+1) t un (.slice zA 3 zc) ((Np.gk lf).map (Np.l5 ⟨#[120]⟩ (t - d) (t+len))) (ft _ _ T9 AO) ((HAS.out.less (by omega)).keep da gm vW) (by rw[Np.xp];omega) (by omega);have rT:=jq sV;obtain⟨jA,jc,SR⟩:=rT.out.form;subst SR;simp only[List.length_append,Np.xp,List.length_cons,List.length_nil,Nat.zero_add] at eE rT;have ll:=jq eE;have qd:=jq ((ka.block (G+5) (by omega)).trans ((vW.block (G+5) (by omega)).trans F6.out));have MS:=jq (MR.out.trans ((vW.acJ).trans (ka.acJ)));have Rx:=jz [_,_,_,_,_,_,_,_,_] qd.out 1 _ rfl;have frj:wj.frozen? ⟨G+2+1+1+1,1,none⟩=false:=by simp[World.frozen?,show G+2+1+1+1=G+5 from rfl,qd.out]
   have Zk:G+5<wq.heap.size:=by omega
   clear Ja DX vW ka eE sV hQ wN;go_wp2_with (at_builtin;refine BH rfl _ _ 23 rfl _ _ _ wj rfl rfl ll.out ?_;clear AO y0 y1 h1);clear Rx frj;go_roundw
   case rel=>
    refine⟨k+1,by omega,by go_num,jq (MS.out.setCell (by dsimp only;omega) _),by simp;omega,.slice jA (k+1) jc,jq ?_,jq (by simp[World.setCell,Array.getElem?_modify,show G+2+1+1+1=G+5 from rfl,qd.out])⟩;have pk:ts.getD k 0=t:=by rw[List.getD_eq_getElem?_getD,CH.out];rfl
    rw[Np.V0,show Np.mS ts en len d lf k=⟨0,t,un,⟨[120],(Np.gk lf).map (Np.l5 ⟨#[120]⟩ (t - d) (t+len))⟩⟩ by unfold Np.mS Np.lZ;rw[pk,qo.out];rfl];have ag:∀ u,(wj.setCell ⟨G+2+1+1+1,1,none⟩ u).heap.size=wj.heap.size:=λu=>by simp[World.setCell]
    rw[ag];exact rT.out.set (p:=⟨G+5,1,none⟩) (.inl rfl) (by dsimp only;omega) _
   case measure=>simp[intOf] <;> omega
  ·obtain rfl:k=n:=by omega
   have Ch:=jq ((bH.out.block (X+1) (by omega)).trans Oa.out);have hy:=jz [_,_,_,_,_,_,_,_,_] Ch.out;have y0:=hy 0 _ rfl;have y1:=hy 1 _ rfl;have y2:=hy 2 _ rfl;have y3:=hy 3 _ rfl;have y4:=hy 4 _ rfl;have y5:=hy 5 _ rfl;have y6:=hy 6 _ rfl;have y7:=hy 7 _ rfl;have y8:=hy 8 _ rfl;have hx:=jz [_,_,_,_,_,_,_,_,_] Cg.out;have x0:=hx 0 _ rfl;have x1:=hx 1 _ rfl;have x2:=hx 2 _ rfl;have x3:=hx 3 _ rfl;have x4:=hx 4 _ rfl;have x5:=hx 5 _ rfl;have x6:=hx 6 _ rfl;have x7:=hx 7 _ rfl;have x8:=hx 8 _ rfl;have eP:∀ q:Nat,ws.frozen? ⟨X+1,q,none⟩=false:=λq=>by simp[World.frozen?,Ch.out]
   have f0:=eP 0;have f1:=eP 1;have f2:=eP 2;have f3:=eP 3;have f4:=eP 4;have f5:=eP 5;have f6:=eP 6;have f7:=eP 7;have f8:=eP 8;clear hy hx eP aa;go_wp2_with fail;clear y0 y1 y2 y3 y4 y5 y6 y7 y8 x0 x1 x2 x3 x4 x5 x6 x7 x8 f0 f1 f2 f3 f4 f5 f6 f7 f8;obtain⟨L,hL⟩:∃ L:List Value,[.slice (some ⟨G+2,0,none⟩) 1 1,.slice cA k cc,.string ⟨#[46]⟩,.int .i64 6,.int .i64 0,.slice (some ⟨G+2+1,0,none⟩) 1 1,.slice (some ⟨G+2+1+1,0,none⟩) 1 1,.int .i64 d,.int .i64 en]=L:=⟨_,rfl⟩;obtain⟨wF,wL⟩:=abY (ws.setCells (X+1) 0 L);have IW:=HP.out.sets (by omega) L 0;have hO:=(Od.out.keep bH.out (by omega)).sets (X:=X+1) (by omega) L 0;have hD:=(NE.out.keep bH.out (by omega)).sets (X:=X+1) (by omega) L 0;have hI:=(oD.out.keep bH.out (by omega)).sets (X:=X+1) (by omega) L 0;have IM:Below w.heap.size w (ws.setCells (X+1) 0 L):=Hm (by omega) L 0 yd.out;have RN:=LG (X+1) L 0 ws;rw[wL] at IW hO hD hI IM RN;rw[<-hL] at wL;simp only[World.setCells,Nat.zero_add,Nat.reduceAdd] at wL;rw[wL];have RF:wF.heap[X+1]?=some (.cells #[.slice (some ⟨G+2,0,none⟩) 1 1,.slice cA k cc,.string ⟨#[46]⟩,.int .i64 6,.int .i64 0,.slice (some ⟨G+2+1,0,none⟩) 1 1,.slice (some ⟨G+2+1+1,0,none⟩) 1 1,.int .i64 d,.int .i64 en] 29 (0,0)):=by
    rw[<-wL];simp[World.setCell,Array.getElem?_modify,Ch.out]
   have sL:=run_loadVar_row (P:=prog) _ _ 29 29 _ (0,0) _ RF underlying29 rfl (by kernel_rfl)
   try simp only[Exit.inBlock,Exit.then]
   refine bodyPost_ret (Lk rfl _ _ _ _ rfl sL) rfl ?_;refine⟨_,rfl,⟨_,_,⟨#[46]⟩,_,_,rfl,rfl,by decide,E5 hO rfl (by omega) ⟨⟨#[97]⟩,rfl,by decide,rfl⟩,?_,E5 hD rfl (by omega) ⟨⟨#[]⟩,rfl,by decide,rfl⟩,E5 hI rfl (by omega) rfl⟩,IM⟩;have d9:=IW.slr (by rw[Np.xp];omega);show SlR jx 5 wF wF.heap.size (.slice cA k cc) (Np.km ts en len d lf ts.length);rw[HN.out];exact d9
end
end Go.Proofs.YtfnopgdcaanaiaaGreatDoor
