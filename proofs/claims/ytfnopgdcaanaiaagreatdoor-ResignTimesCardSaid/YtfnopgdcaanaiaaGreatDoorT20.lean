/- Parts of the proof. No condition. -/
import Derived.Test.YtfnopgdcaanaiaaGreatDoorT17
set_option linter.all false
set_option maxRecDepth 100000
set_option maxHeartbeats 8000000
namespace Go.Proofs.YtfnopgdcaanaiaaGreatDoor
open Go.Proofs.Tryz
section
open Go.RowKit
def CX(W:World)(B:Nat)(e:List Value)(x:Np.WorldP):Prop:=∃ (hv zv:Value) (s:ByteArray) (dv cW:Value),e = [hv,zv,.string s,.int .i64 x.anchor.type,.int .i64 x.anchor.life,dv,cW]/\s.data.toList=x.anchor.name/\s.size<=140737488355328/\
 SlR lA 3 W B hv x.hosts/\SlR qw 3 W B zv x.zones/\SlR bI 3 W B dv x.anchor.data/\SlR eK 1 W B cW x.hints
theorem WZ:cj CX:=λ_ _ _ _ _ ⟨hv,cv,s,dv,cW,h0,h1,h2,h3,h4,h5,h6⟩ hb=>⟨hv,cv,s,dv,cW,h0,h1,h2,h3.keep ry hb,h4.keep Bm hb,h5.keep bq hb,h6.keep g9 hb⟩
theorem W4:cB CX:=λ_ _ _ _ _ ⟨hv,cv,s,dv,cW,h0,h1,h2,h3,h4,h5,h6⟩ hb=>⟨hv,cv,s,dv,cW,h0,h1,h2,h3.more xw hb,h4.more E2 hb,h5.more bD hb,h6.more l4 hb⟩
theorem aO.formL{α:Type}{R:agJ α}{sz:Nat}{e:TypeId}{base B:Nat}{w:World}{v:Value}{xs:List α}(h:aO R sz e base B w v xs):∃ A c,v = .slice A xs.length c:=by
 obtain⟨rows,_,h2,_⟩:=h;exact jr h2
theorem aO.setLow{α:Type}{R:agJ α}{sz:Nat}{e:TypeId}{base B:Nat}{w:World}{v:Value}{xs:List α}(h:aO R sz e base B w v xs)(hr:∀ w' r x,R w B r x->R w' B r x){p:Addr}(hp:p.block<base)(u:Value):aO R sz e base B (w.setCell p u) v xs:=by
 obtain⟨rows,h1,h2,h3⟩:=h;exact⟨rows,h1,ownsRow_setCell_below h2 hp u,λi r x hr' hx=>⟨(h3 i r x hr' hx).1,hr _ _ _ (h3 i r x hr' hx).2⟩⟩
theorem aO.sans{α:Type}{R:agJ α}{sz:Nat}{e:TypeId}{base B:Nat}{w:World}{v:Value}{xs:List α}(h:aO R sz e base B w v xs){M:Nat->Prop}(hM:∀ k,M k->k<base)(hr:∀ r x,R w B r x->R (aR w M) B r x):aO R sz e base B (aR w M) v xs:=by
 obtain⟨rows,h1,h2,h3⟩:=h;exact⟨rows,h1,bY h2 (λg hg=>iU (λhm=>by have:=(h2.lt g hg).1;have:=hM g hm;omega)),λi r x hr' hx=>⟨(h3 i r x hr' hx).1,hr _ _ (h3 i r x hr' hx).2⟩⟩
def xO(n:Nat)(w:World)(dv sv:Value)(d:List Np.Datum)(g:List Np.Sig):Prop:=∀ M:Nat->Prop,(∀ k,M k->k<n)->SlR bI 3 (aR w M) w.heap.size dv d/\SlR cr 6 (aR w M) w.heap.size sv g
theorem P6(s:ByteArray)(ty life:Int)(dv:Value)(d:List Np.Datum)(sv:Value)(g:List Np.Sig)(vt:d.length<=1000000)(nM:g.length<=1000000)(w:World)(hd:SlR bI 3 w w.heap.size dv d)(hg:SlR cr 6 w w.heap.size sv g) :
 Calls prog 71 #[.agg #[.string s,.int .i64 ty,.int .i64 life,dv,sv]] w λe w'=>∃ dv' sv',e = .returned (.agg #[.string s,.int .i64 ty,.int .i64 life,dv',sv'])/\xO w.heap.size w' dv' sv' d g/\Below w.heap.size w w':=by
 have HD:=jq hd;have HG:=jq hg;obtain⟨A1,c1,rfl,_,_⟩:=ar hd;obtain⟨A2,c2,rfl,_,_⟩:=ar hg;clear hd hg;obtain⟨n1,co⟩:=abY d.length;obtain⟨n2,dj⟩:=abY g.length;rw[co] at HD |-;rw[dj] at HG |-;clear co dj;obtain⟨w1,am⟩:=abY ((w.alloc (.cells #[.string s,.int .i64 ty,.int .i64 life,.slice A1 n1 c1,.slice A2 n2 c2] 42)).alloc (.cells #[.string ⟨#[]⟩,.int .i64 0,.int .i64 0,.slice none 0 0,.slice none 0 0] 42));have aD:Hid (Below w.heap.size w w1):=jq (by rw[<-am];exact ((vQ _ _).alloc (bQ _) _).alloc (by simp) _);have aK:w1.heap.size=w.heap.size+2:=by rw[<-am];simp
 obtain⟨X,hX⟩:=abY w.heap.size;obtain⟨Y,hY⟩:=abY (X+1);have k0:w1.cell? ⟨X,0,none⟩=some (.string s):=by rw[<-am,<-hX];simp[go_sem]
 have k1:w1.cell? ⟨X,1,none⟩=some (.int .i64 ty):=by rw[<-am,<-hX];simp[go_sem]
 have k2:w1.cell? ⟨X,2,none⟩=some (.int .i64 life):=by rw[<-am,<-hX];simp[go_sem]
 have k3:w1.cell? ⟨X,3,none⟩=some (.slice A1 n1 c1):=by rw[<-am,<-hX];simp[go_sem]
 have k4:w1.cell? ⟨X,4,none⟩=some (.slice A2 n2 c2):=by rw[<-am,<-hX];simp[go_sem]
 have kf3:w1.frozen? ⟨X,3,none⟩=false:=by rw[<-am,<-hX];simp[go_sem]
 have kf4:w1.frozen? ⟨X,4,none⟩=false:=by rw[<-am,<-hX];simp[go_sem]
 have nW:w1.heap[Y]?=some (.cells #[.string ⟨#[]⟩,.int .i64 0,.int .i64 0,.slice none 0 0,.slice none 0 0] 42):=by
  rw[<-am,<-hY,<-hX]
  have:=heap_alloc_new (w.alloc (.cells #[.string s,.int .i64 ty,.int .i64 life,.slice A1 n1 c1,.slice A2 n2 c2] 42)) (.cells #[.string ⟨#[]⟩,.int .i64 0,.int .i64 0,.slice none 0 0,.slice none 0 0] 42)
  simpa using this
 have iF:=jq hX;go_enter func71,ntmps71;go_wp2_with fail;rw[hX] at HD HG aD aK;clear am hX;refine (Db _ d vt _ ((HD.out.keep bq aD.out).more bD (by omega))).mono ?_;rintro e w2 ⟨v2,rfl,dK,ab⟩;have aC:=ab.size;replace k0:=aaJ ab k0;replace k1:=aaJ ab k1;replace k2:=aaJ ab k2;replace k3:=aaJ ab k3;replace k4:=aaJ ab k4;replace kf3:=(ab.frozen (p:=⟨X,3,none⟩) (by dsimp only;omega)).trans kf3;replace kf4:=(ab.frozen (p:=⟨X,4,none⟩) (by dsimp only;omega)).trans kf4;replace nW:=(ab.block Y (by omega)).trans nW;have bV:=jq dK;have ai:=aaK aD ab;obtain⟨A3,c3,rfl⟩:=dK.formL;clear dK ab;obtain⟨n3,fL⟩:=abY d.length;rw[fL] at bV |-;obtain⟨w3,br⟩:=abY (w2.setCell ⟨X,3,none⟩ (.slice A3 n3 c3));have gh:w3.heap.size=w2.heap.size:=by rw[<-br];simp
 have ay:Hid (Below X w w3):=jq (by rw[<-br];exact ai.out.setCell (bQ _) _);have fp:Hid (aO bI 3 128 w1.heap.size w1.heap.size w3 (.slice A3 n3 c3) d):=jq (by rw[<-br];exact bV.out.setLow (λ_ _ _ h=>h) (by dsimp only;omega) _);have j0:w3.cell? ⟨X,0,none⟩=some (.string s):=by rw[<-br];exact (xQ _ _ _ _ (by simp)).trans k0
 have j1:w3.cell? ⟨X,1,none⟩=some (.int .i64 ty):=by rw[<-br];exact (xQ _ _ _ _ (by simp)).trans k1
 have j2:w3.cell? ⟨X,2,none⟩=some (.int .i64 life):=by rw[<-br];exact (xQ _ _ _ _ (by simp)).trans k2
 have j3:w3.cell? ⟨X,3,none⟩=some (.slice A3 n3 c3):=by rw[<-br];exact World.cell?_setCell_same _ _ _ k3
 have j4:w3.cell? ⟨X,4,none⟩=some (.slice A2 n2 c2):=by rw[<-br];exact (xQ _ _ _ _ (by simp)).trans k4
 have jf4:w3.frozen? ⟨X,4,none⟩=false:=by rw[<-br];exact (World.frozen?_setCell _ _ _ _).trans kf4
 have jobj:=(wQ w2 ⟨X,3,none⟩ (.slice A3 n3 c3) Y (by dsimp only;omega)).trans nW;rw[br] at jobj;go_wp2_with fail;clear br k0 k1 k2 k3 k4 kf3 kf4 nW;refine (Hv _ g nM _ ((HG.out.keep cC ay.out).more cZ (by omega))).mono ?_;rintro e w4 ⟨v4,rfl,iR,ah⟩;have gX:=ah.size;replace j0:=aaJ ah j0;replace j1:=aaJ ah j1;replace j2:=aaJ ah j2;replace j3:=aaJ ah j3;replace j4:=aaJ ah j4;replace jf4:=(ah.frozen (p:=⟨X,4,none⟩) (by dsimp only;omega)).trans jf4;replace jobj:=(ah.block Y (by omega)).trans jobj;have mi:=jq iR;have Cs:=jq (fp.out.keep bq ah (by omega));have bl:=aaK ay ah;obtain⟨A4,c4,rfl⟩:=iR.formL;clear iR ah;obtain⟨n4,ga⟩:=abY g.length;rw[ga] at mi |-;obtain⟨w5,aB⟩:=abY (w4.setCell ⟨X,4,none⟩ (.slice A4 n4 c4));have jo:w5.heap.size=w4.heap.size:=by rw[<-aB];simp
 have db:Hid (Below X w w5):=jq (by rw[<-aB];exact bl.out.setCell (bQ _) _);have kw:Hid (aO cr 6 50 w3.heap.size w3.heap.size w5 (.slice A4 n4 c4) g):=jq (by rw[<-aB];exact mi.out.setLow (λ_ _ _ h=>h) (by dsimp only;omega) _);have oM:Hid (aO bI 3 128 w1.heap.size w1.heap.size w5 (.slice A3 n3 c3) d):=jq (by rw[<-aB];exact Cs.out.setLow (λ_ _ _ h=>h) (by dsimp only;omega) _);have m0:w5.cell? ⟨X,0,none⟩=some (.string s):=by rw[<-aB];exact (xQ _ _ _ _ (by simp)).trans j0
 have m1:w5.cell? ⟨X,1,none⟩=some (.int .i64 ty):=by rw[<-aB];exact (xQ _ _ _ _ (by simp)).trans j1
 have m2:w5.cell? ⟨X,2,none⟩=some (.int .i64 life):=by rw[<-aB];exact (xQ _ _ _ _ (by simp)).trans j2
 have m3:w5.cell? ⟨X,3,none⟩=some (.slice A3 n3 c3):=by rw[<-aB];exact (xQ _ _ _ _ (by simp)).trans j3
 have m4:w5.cell? ⟨X,4,none⟩=some (.slice A4 n4 c4):=by rw[<-aB];exact World.cell?_setCell_same _ _ _ j4
 have mobj:=(wQ w4 ⟨X,4,none⟩ (.slice A4 n4 c4) Y (by dsimp only;omega)).trans jobj;rw[aB] at mobj;have y0:w5.cell? ⟨Y,0,none⟩=some (.string ⟨#[]⟩):=by simp[World.cell?,mobj]
 have z0:w5.frozen? ⟨Y,0,none⟩=false:=by simp[World.frozen?,mobj]
 have y1:w5.cell? ⟨Y,1,none⟩=some (.int .i64 0):=by simp[World.cell?,mobj]
 have z1:w5.frozen? ⟨Y,1,none⟩=false:=by simp[World.frozen?,mobj]
 have y2:w5.cell? ⟨Y,2,none⟩=some (.int .i64 0):=by simp[World.cell?,mobj]
 have z2:w5.frozen? ⟨Y,2,none⟩=false:=by simp[World.frozen?,mobj]
 have y3:w5.cell? ⟨Y,3,none⟩=some (.slice none 0 0):=by simp[World.cell?,mobj]
 have z3:w5.frozen? ⟨Y,3,none⟩=false:=by simp[World.frozen?,mobj]
 have y4:w5.cell? ⟨Y,4,none⟩=some (.slice none 0 0):=by simp[World.cell?,mobj]
 have z4:w5.frozen? ⟨Y,4,none⟩=false:=by simp[World.frozen?,mobj]
 go_wp2_with fail;obtain⟨W,hW⟩:=abY (((((w5.setCell ⟨Y,0,none⟩ (.string s)).setCell ⟨Y,1,none⟩ (.int .i64 ty)).setCell ⟨Y,2,none⟩ (.int .i64 life)).setCell ⟨Y,3,none⟩ (.slice A3 n3 c3)).setCell ⟨Y,4,none⟩ (.slice A4 n4 c4));have no:Hid (aO bI 3 128 w1.heap.size w1.heap.size W (.slice A3 n3 c3) d):=jq (by rw[<-hW];exact (((((oM.out.setLow (λ_ _ _ h=>h) (by dsimp only;omega) _).setLow (λ_ _ _ h=>h) (by dsimp only;omega) _).setLow (λ_ _ _ h=>h) (by dsimp only;omega) _).setLow (λ_ _ _ h=>h) (by dsimp only;omega) _).setLow (λ_ _ _ h=>h) (by dsimp only;omega) _));have iY:Hid (aO cr 6 50 w3.heap.size w3.heap.size W (.slice A4 n4 c4) g):=jq (by rw[<-hW];exact (((((kw.out.setLow (λ_ _ _ h=>h) (by dsimp only;omega) _).setLow (λ_ _ _ h=>h) (by dsimp only;omega) _).setLow (λ_ _ _ h=>h) (by dsimp only;omega) _).setLow (λ_ _ _ h=>h) (by dsimp only;omega) _).setLow (λ_ _ _ h=>h) (by dsimp only;omega) _));have bg:Hid (Below X w W):=jq (by rw[<-hW];exact (((((db.out.setCell (by dsimp only;omega) _).setCell (by dsimp only;omega) _).setCell (by dsimp only;omega) _).setCell (by dsimp only;omega) _).setCell (by dsimp only;omega) _));have AR:W.heap.size=w5.heap.size:=by rw[<-hW];simp
 have e0:W.cell? ⟨Y,0,none⟩=some (.string s):=by rw[<-hW];simp[go_sem,y0]
 have e1:W.cell? ⟨Y,1,none⟩=some (.int .i64 ty):=by rw[<-hW];simp[go_sem,y1]
 have e2:W.cell? ⟨Y,2,none⟩=some (.int .i64 life):=by rw[<-hW];simp[go_sem,y2]
 have e3:W.cell? ⟨Y,3,none⟩=some (.slice A3 n3 c3):=by rw[<-hW];simp[go_sem,y3]
 have e4:W.cell? ⟨Y,4,none⟩=some (.slice A4 n4 c4):=by rw[<-hW];simp[go_sem,y4]
 rw[hW];refine bodyPost_ret (v:=.agg #[.string s,.int .i64 ty,.int .i64 life,.slice A3 n3 c3,.slice A4 n4 c4]) ?_ rfl ⟨_,_,rfl,λM hM=>?_,by rw[iF.out];exact bg.out⟩
 ·simp[results,results71,go_sem,e0,e1,e2,e3,e4]
 ·have h1:=(no.out.sans (M:=M) (λk hk=>by have:=hM k hk;have:=iF.out;omega) (λ_ _ h=>h)).slr bD (by rw[eW];omega) (by omega);have h2:=(iY.out.sans (M:=M) (λk hk=>by have:=hM k hk;have:=iF.out;omega) (λ_ _ h=>h)).slr cZ (by rw[eW];omega) (by omega);rw[eW] at h1 h2;exact⟨h1,h2⟩
theorem xD{α:Type}(R:agJ α)(sz:Nat)(w:World)(B:Nat):SlR R sz w B (.slice none 0 0) []:=⟨none,0,rfl,by simp,by simp,λi x hx=>by simp at hx⟩
theorem P2(w:World)(l:List Value)(T:TypeId):fC (w.alloc (.cells l.toArray T)) w.heap.size 0 l:=λj v hj=>by
 have h:=heap_alloc_new w (.cells l.toArray T);unfold World.cell?;rw[h,Nat.zero_add];simpa using hj
theorem fC.off{w:World}{b o:Nat}{e:List Value}(h:fC w b o e){M:Nat->Prop}(hM:¬ M b):fC (aR w M) b o e:=λj v hj=>(iQ (a:=⟨b,o+j,none⟩) (iU hM)).trans (h j v hj)
theorem PO{α:Type}{R:agJ α}{sz:Nat}{p:Nat->Prop}{w w':World}{v:Value}{xs:List α}(h:∀ M:Nat->Prop,(∀ k,M k->p k)->SlR R sz (aR w M) w.heap.size v xs)(hk:cj R)(hm:cB R)(hb:Below w.heap.size w w'){M:Nat->Prop}(hM:∀ k,M k->p k\/w.heap.size<=k):SlR R sz (aR w' M) w'.heap.size v xs:=by
 have h1:=h (λk=>M k/\k<w.heap.size) (λk e=>(hM k e.1).resolve_right (by omega));refine (h1.keep hk ?_).more hm hb.size;refine⟨hb.os,hb.tape,hb.output,by rw[eW,eW];exact hb.size,λk hk=>?_⟩;by_cases hm:M k
 ·have h1:k<w'.heap.size:=lQ hk hb.size;rw[rB hm,rB (M:=λk=>M k/\k<w.heap.size) ⟨hm,hk⟩];simp[hk,h1]
 ·rw[iU hm,iU (M:=λk=>M k/\k<w.heap.size) (λe=>hm e.1)];exact hb.block k hk
theorem bw.later{α:Type}{R:agJ α}{sz n:Nat}{w w':World}{v:Value}{xs:List α}(h:bw R sz 0 n w v xs)(hk:cj R)(hm:cB R)(hb:Below w.heap.size w w'){M:Nat->Prop}(hM:∀ k,M k->k<n\/w.heap.size<=k):SlR R sz (aR w' M) w'.heap.size v xs:=
 PO h hk hm hb (λk e=>(hM k e).imp (λe=>⟨jQ _,e⟩) id)
theorem bw.keep{α:Type}{R:agJ α}{sz n:Nat}{w w':World}{v:Value}{xs:List α}(h:bw R sz 0 n w v xs)(hk:cj R)(hm:cB R)(hb:Below w.heap.size w w'):bw R sz 0 n w' v xs:=λ_ hM=>h.later hk hm hb (λk e=>.inl (hM k e).2)
theorem bw.less{α:Type}{R:agJ α}{sz n m:Nat}{w:World}{v:Value}{xs:List α}(h:bw R sz 0 n w v xs)(hm:m<=n):bw R sz 0 m w v xs:=λM hM=>h M (λk e=>⟨jQ _,lQ (hM k e).2 hm⟩)
theorem bw.nil{α:Type}(R:agJ α)(sz n:Nat)(w:World):bw R sz 0 n w (.slice none 0 0) []:=λ_ _=>xD _ _ _ _
theorem bw.form{α:Type}{R:agJ α}{sz n:Nat}{w:World}{v:Value}{xs:List α}(h:bw R sz 0 n w v xs):∃ A c,v = .slice A xs.length c:=by
 obtain⟨A,c,rfl,_⟩:=ar (h (λ_=>False) (λ_ e=>e.elim));exact⟨_,_,rfl⟩
theorem Hs{w w':World}{n:Nat}(l:List Value)(T:TypeId)(hn:w.heap.size=n)(he:w'=w.alloc (.cells l.toArray T)):fC w' n 0 l:=by subst hn;subst he;exact P2 w l T
structure OneAt(n:Nat)(w:World)(b:Nat)(l:List Value):Prop where
 lo:n<=b
 hi:b<w.heap.size
 cells:fC w b 0 l
theorem OneAt.keep{n:Nat}{w w':World}{b:Nat}{l:List Value}(h:OneAt n w b l)(hb:Below w.heap.size w w'):OneAt n w' b l:=⟨h.lo,lQ h.hi hb.size,h.cells.keep hb h.hi⟩
def dM(w:World)(X:Nat)(L:List Value):Prop:=∀ i v,L[i]?=some v->w.cell? ⟨X,i,none⟩=some v
theorem dM.keep{w w':World}{X B:Nat}{L:List Value}(h:dM w X L)(hb:Below B w w')(hX:X<B):dM w' X L:=λi v hi=>(hb.cell (p:=⟨X,i,none⟩) hX).trans (h i v hi)
theorem ft{w w':World}{X:Nat}(l:List Value)(T:TypeId)(hn:w.heap.size=X)(he:w.alloc (.cells l.toArray T)=w'):dM w' X l:=λi v hi=>by
 have:=Hs l T hn he.symm i v hi
 rwa [Nat.zero_add] at this
end
section
open Go.RowKit Go.Shelf
attribute [local go_sem] Oper.semAt_some
theorem Xe{α:Type}{R:agJ α}{sz:Nat}{w:World}{B:Nat}{v:Value}{xs:List α}(h:SlR R sz w B v xs):∃ A c,v = .slice A xs.length c/\xs.length<=c/\xs.length<=140737488355328:=by
 obtain⟨A,c,h1,h2,h3,_⟩:=h;exact⟨A,c,h1,h2,h3⟩
theorem ko{α:Type}{R:agJ α}{sz:Nat}{w:World}{B:Nat}{v:Value}{xs:List α}(h:SlR R sz w B v xs):∃ A n c,v = .slice A n c/\xs.length=n/\n<=c/\n<=140737488355328:=by
 obtain⟨A,c,h1,h2,h3⟩:=Xe h;exact⟨A,_,c,h1,rfl,h2,h3⟩
def Np.Hc(g x:Np.Sig):Prop:=x.frm=g.frm/\x.til=g.til/\0<=x.frm/\x.frm<=x.til/\x.til<=20000000
theorem Np.VX{gs:List Np.Sig}(h:∀ g:Np.Sig,gs[0]?=some g->∀ (i:Nat) (x:Np.Sig),gs[i]?=some x->Np.Hc g x):Np.jM gs=true:=by
 cases gs with
 | nil=>rfl
 | cons g r=>
  obtain⟨_,_,h3,h4,h5⟩:=h g rfl 0 g rfl;have h6:(g::r).any (Np.rA g)=false:=by
   rw[List.any_eq_false];intro x hx;obtain⟨i,hi⟩:=List.mem_iff_getElem?.1 hx;obtain⟨e1,e2,_⟩:=h g rfl i x hi;simp[Np.rA,e1,e2]
  rw[show Np.jM (g::r)=(!(decide (g.frm<0)||decide (g.til<g.frm)||decide (20000000<g.til))&&!((g::r).any (Np.rA g))) from rfl,h6,tQ (by omega:¬ g.frm<0),tQ (by omega:¬ g.til<g.frm),tQ (by omega:¬ 20000000<g.til)];rfl
theorem Np.VW{gs:List Np.Sig}{g x:Np.Sig}{i:Nat}(hg:gs[0]?=some g)(hx:gs[i]?=some x)(h:¬ Np.Hc g x):Np.jM gs=false:=by
 cases gs with
 | nil=>cases hg
 | cons g' r=>
  cases hg
  cases hq:Np.jM (g::r) with
  | false=>rfl
  | true=>
   exfalso;unfold Np.jM at hq;simp only[Bool.and_eq_true,Bool.not_eq_true',Bool.or_eq_false_iff,decide_eq_false_iff_not] at hq;obtain⟨⟨⟨h1,h2⟩,h3⟩,h4⟩:=hq;have h5:=List.any_eq_false.1 h4 x (gQ hx);simp only[Np.rA,Bool.or_eq_true,bne_iff_ne,ne_eq,not_or,Decidable.not_not] at h5;exact h ⟨h5.1,h5.2,by omega,by omega,by omega⟩
end
section
open Go.RowKit Go.Shelf
theorem Tryz.infoCloneSpan:(prog.info? 110).map (λi=>(i.zero,i.size,i.bytes))=some (some (.agg #[.int .i64 0,.int .i64 0]),2,16):=by kernel_rfl
theorem P7(v:Value)(xs:List Np.Span)(hl:xs.length<=1000000)(w:World)(h:SlR cm 2 w w.heap.size v xs) :
 Calls prog 85 #[v] w λe w'=>∃ v',e = .returned v'/\aO cm 2 110 w.heap.size w.heap.size w' v' xs/\Below w.heap.size w w':=by
 have HD:=jq h;obtain⟨A,c,rfl,aT,cu⟩:=ar h;clear h;have heq:=run_eql_slice_nil (P:=prog) w 55 110 A xs.length c underlying55;have ca:Hid (Below w.heap.size w (w.alloc (.cells #[] 110))):=jq ((vQ _ _).alloc (bQ _) _);obtain⟨i0,hi,bd,aK,aC⟩:=info_parts Tryz.infoCloneSpan
 cases A with
 | none=>
  obtain⟨hn,rfl⟩:=E4 HD.out;rw[List.length_nil] at heq |-;simp only[Option.isNone_none] at heq;go_enter func85,ntmps85;go_wp2_with fail;go_ret;exact⟨_,rfl,aO.nil _,vQ _ _⟩
 | some ad=>
  go_enter func85,ntmps85;go_wp2_with (at_builtin;refine Fu (R:=cm) (sz:=2) _ rfl _ _ 55 rfl w.heap.size w.heap.size 110 i0 (.agg #[.int .i64 0,.int .i64 0]) 16 underlying55 hi bd aK aC rfl (by decide) _ [] rfl (aO.empty w (bQ _)) (some ad) c w.heap.size xs rfl (HD.out.keep cI ca.out) (λr y h=>by (rw[show r = [.int .i64 y.frm,.int .i64 y.til] from h];intro u hu;simp at hu;rcases hu with rfl | rfl <;> rfl)) (by simp[maxLen];omega) (by simp;omega) (by simp) (bQ _) (bQ _) cI iw ?_;intro v3 w3 gb ae kL;have H3:=jq (And.intro gb (ca.out.trans ae));clear gb ae kL);go_ret;exact⟨_,rfl,H3.out.1,H3.out.2⟩
theorem WF(s:ByteArray)(ty life:Int)(dv:Value)(d:List Np.Datum)(sv:Value)(g:List Np.Sig)(vt:d.length<=1000000)(nM:g.length<=1000000)(w:World)(hd:SlR bI 3 w w.heap.size dv d)(hg:SlR cr 6 w w.heap.size sv g) :
 Calls prog 84 #[.agg #[.string s,.int .i64 ty,.int .i64 life,dv,sv]] w λe w'=>∃ dv' sv',e = .returned (.agg #[.string s,.int .i64 ty,.int .i64 life,dv',sv'])/\xO w.heap.size w' dv' sv' d g/\Below w.heap.size w w':=by
 have HD:=jq hd;have HG:=jq hg;obtain⟨A1,c1,rfl,_,_⟩:=ar hd;obtain⟨A2,c2,rfl,_,_⟩:=ar hg;clear hd hg;obtain⟨n1,co⟩:=abY d.length;obtain⟨n2,dj⟩:=abY g.length;rw[co] at HD |-;rw[dj] at HG |-;clear co dj;obtain⟨w1,am⟩:=abY ((w.alloc (.cells #[.string s,.int .i64 ty,.int .i64 life,.slice A1 n1 c1,.slice A2 n2 c2] 42)).alloc (.cells #[.string ⟨#[]⟩,.int .i64 0,.int .i64 0,.slice none 0 0,.slice none 0 0] 42));have aD:Hid (Below w.heap.size w w1):=jq (by rw[<-am];exact ((vQ _ _).alloc (bQ _) _).alloc (by simp) _);have aK:w1.heap.size=w.heap.size+2:=by rw[<-am];simp
 obtain⟨X,hX⟩:=abY w.heap.size;obtain⟨Y,hY⟩:=abY (X+1);have k0:w1.cell? ⟨X,0,none⟩=some (.string s):=by rw[<-am,<-hX];simp[go_sem]
 have k1:w1.cell? ⟨X,1,none⟩=some (.int .i64 ty):=by rw[<-am,<-hX];simp[go_sem]
 have k2:w1.cell? ⟨X,2,none⟩=some (.int .i64 life):=by rw[<-am,<-hX];simp[go_sem]
 have k3:w1.cell? ⟨X,3,none⟩=some (.slice A1 n1 c1):=by rw[<-am,<-hX];simp[go_sem]
 have k4:w1.cell? ⟨X,4,none⟩=some (.slice A2 n2 c2):=by rw[<-am,<-hX];simp[go_sem]
 have kf3:w1.frozen? ⟨X,3,none⟩=false:=by rw[<-am,<-hX];simp[go_sem]
 have kf4:w1.frozen? ⟨X,4,none⟩=false:=by rw[<-am,<-hX];simp[go_sem]
 have nW:w1.heap[Y]?=some (.cells #[.string ⟨#[]⟩,.int .i64 0,.int .i64 0,.slice none 0 0,.slice none 0 0] 42):=by
  rw[<-am,<-hY,<-hX]
  have:=heap_alloc_new (w.alloc (.cells #[.string s,.int .i64 ty,.int .i64 life,.slice A1 n1 c1,.slice A2 n2 c2] 42)) (.cells #[.string ⟨#[]⟩,.int .i64 0,.int .i64 0,.slice none 0 0,.slice none 0 0] 42)
  simpa using this
 have iF:=jq hX;go_enter func84,ntmps84;go_wp2_with fail;rw[hX] at HD HG aD aK;clear am hX;refine (Db _ d vt _ ((HD.out.keep bq aD.out).more bD (by omega))).mono ?_;rintro e w2 ⟨v2,rfl,dK,ab⟩;have aC:=ab.size;replace k0:=aaJ ab k0;replace k1:=aaJ ab k1;replace k2:=aaJ ab k2;replace k3:=aaJ ab k3;replace k4:=aaJ ab k4;replace kf3:=(ab.frozen (p:=⟨X,3,none⟩) (by dsimp only;omega)).trans kf3;replace kf4:=(ab.frozen (p:=⟨X,4,none⟩) (by dsimp only;omega)).trans kf4;replace nW:=(ab.block Y (by omega)).trans nW;have bV:=jq dK;have ai:=aaK aD ab;obtain⟨A3,c3,rfl⟩:=dK.formL;clear dK ab;obtain⟨n3,fL⟩:=abY d.length;rw[fL] at bV |-;obtain⟨w3,br⟩:=abY (w2.setCell ⟨X,3,none⟩ (.slice A3 n3 c3));have gh:w3.heap.size=w2.heap.size:=by rw[<-br];simp
 have ay:Hid (Below X w w3):=jq (by rw[<-br];exact ai.out.setCell (bQ _) _);have fp:Hid (aO bI 3 128 w1.heap.size w1.heap.size w3 (.slice A3 n3 c3) d):=jq (by rw[<-br];exact bV.out.setLow (λ_ _ _ h=>h) (by dsimp only;omega) _);have j0:w3.cell? ⟨X,0,none⟩=some (.string s):=by rw[<-br];exact (xQ _ _ _ _ (by simp)).trans k0
 have j1:w3.cell? ⟨X,1,none⟩=some (.int .i64 ty):=by rw[<-br];exact (xQ _ _ _ _ (by simp)).trans k1
 have j2:w3.cell? ⟨X,2,none⟩=some (.int .i64 life):=by rw[<-br];exact (xQ _ _ _ _ (by simp)).trans k2
 have j3:w3.cell? ⟨X,3,none⟩=some (.slice A3 n3 c3):=by rw[<-br];exact World.cell?_setCell_same _ _ _ k3
 have j4:w3.cell? ⟨X,4,none⟩=some (.slice A2 n2 c2):=by rw[<-br];exact (xQ _ _ _ _ (by simp)).trans k4
 have jf4:w3.frozen? ⟨X,4,none⟩=false:=by rw[<-br];exact (World.frozen?_setCell _ _ _ _).trans kf4
 have jobj:=(wQ w2 ⟨X,3,none⟩ (.slice A3 n3 c3) Y (by dsimp only;omega)).trans nW;rw[br] at jobj;go_wp2_with fail;clear br k0 k1 k2 k3 k4 kf3 kf4 nW;refine (Hv _ g nM _ ((HG.out.keep cC ay.out).more cZ (by omega))).mono ?_;rintro e w4 ⟨v4,rfl,iR,ah⟩;have gX:=ah.size;replace j0:=aaJ ah j0;replace j1:=aaJ ah j1;replace j2:=aaJ ah j2;replace j3:=aaJ ah j3;replace j4:=aaJ ah j4;replace jf4:=(ah.frozen (p:=⟨X,4,none⟩) (by dsimp only;omega)).trans jf4;replace jobj:=(ah.block Y (by omega)).trans jobj;have mi:=jq iR;have Cs:=jq (fp.out.keep bq ah (by omega));have bl:=aaK ay ah;obtain⟨A4,c4,rfl⟩:=iR.formL;clear iR ah;obtain⟨n4,ga⟩:=abY g.length;rw[ga] at mi |-;obtain⟨w5,aB⟩:=abY (w4.setCell ⟨X,4,none⟩ (.slice A4 n4 c4));have jo:w5.heap.size=w4.heap.size:=by rw[<-aB];simp
 have db:Hid (Below X w w5):=jq (by rw[<-aB];exact bl.out.setCell (bQ _) _);have kw:Hid (aO cr 6 50 w3.heap.size w3.heap.size w5 (.slice A4 n4 c4) g):=jq (by rw[<-aB];exact mi.out.setLow (λ_ _ _ h=>h) (by dsimp only;omega) _);have oM:Hid (aO bI 3 128 w1.heap.size w1.heap.size w5 (.slice A3 n3 c3) d):=jq (by rw[<-aB];exact Cs.out.setLow (λ_ _ _ h=>h) (by dsimp only;omega) _);have m0:w5.cell? ⟨X,0,none⟩=some (.string s):=by rw[<-aB];exact (xQ _ _ _ _ (by simp)).trans j0
 have m1:w5.cell? ⟨X,1,none⟩=some (.int .i64 ty):=by rw[<-aB];exact (xQ _ _ _ _ (by simp)).trans j1
 have m2:w5.cell? ⟨X,2,none⟩=some (.int .i64 life):=by rw[<-aB];exact (xQ _ _ _ _ (by simp)).trans j2
 have m3:w5.cell? ⟨X,3,none⟩=some (.slice A3 n3 c3):=by rw[<-aB];exact (xQ _ _ _ _ (by simp)).trans j3
 have m4:w5.cell? ⟨X,4,none⟩=some (.slice A4 n4 c4):=by rw[<-aB];exact World.cell?_setCell_same _ _ _ j4
 have mobj:=(wQ w4 ⟨X,4,none⟩ (.slice A4 n4 c4) Y (by dsimp only;omega)).trans jobj;rw[aB] at mobj;have y0:w5.cell? ⟨Y,0,none⟩=some (.string ⟨#[]⟩):=by simp[World.cell?,mobj]
 have z0:w5.frozen? ⟨Y,0,none⟩=false:=by simp[World.frozen?,mobj]
 have y1:w5.cell? ⟨Y,1,none⟩=some (.int .i64 0):=by simp[World.cell?,mobj]
 have z1:w5.frozen? ⟨Y,1,none⟩=false:=by simp[World.frozen?,mobj]
 have y2:w5.cell? ⟨Y,2,none⟩=some (.int .i64 0):=by simp[World.cell?,mobj]
 have z2:w5.frozen? ⟨Y,2,none⟩=false:=by simp[World.frozen?,mobj]
 have y3:w5.cell? ⟨Y,3,none⟩=some (.slice none 0 0):=by simp[World.cell?,mobj]
 have z3:w5.frozen? ⟨Y,3,none⟩=false:=by simp[World.frozen?,mobj]
 have y4:w5.cell? ⟨Y,4,none⟩=some (.slice none 0 0):=by simp[World.cell?,mobj]
 have z4:w5.frozen? ⟨Y,4,none⟩=false:=by simp[World.frozen?,mobj]
 go_wp2_with fail;obtain⟨W,hW⟩:=abY (((((w5.setCell ⟨Y,0,none⟩ (.string s)).setCell ⟨Y,1,none⟩ (.int .i64 ty)).setCell ⟨Y,2,none⟩ (.int .i64 life)).setCell ⟨Y,3,none⟩ (.slice A3 n3 c3)).setCell ⟨Y,4,none⟩ (.slice A4 n4 c4));have no:Hid (aO bI 3 128 w1.heap.size w1.heap.size W (.slice A3 n3 c3) d):=jq (by rw[<-hW];exact (((((oM.out.setLow (λ_ _ _ h=>h) (by dsimp only;omega) _).setLow (λ_ _ _ h=>h) (by dsimp only;omega) _).setLow (λ_ _ _ h=>h) (by dsimp only;omega) _).setLow (λ_ _ _ h=>h) (by dsimp only;omega) _).setLow (λ_ _ _ h=>h) (by dsimp only;omega) _));have iY:Hid (aO cr 6 50 w3.heap.size w3.heap.size W (.slice A4 n4 c4) g):=jq (by rw[<-hW];exact (((((kw.out.setLow (λ_ _ _ h=>h) (by dsimp only;omega) _).setLow (λ_ _ _ h=>h) (by dsimp only;omega) _).setLow (λ_ _ _ h=>h) (by dsimp only;omega) _).setLow (λ_ _ _ h=>h) (by dsimp only;omega) _).setLow (λ_ _ _ h=>h) (by dsimp only;omega) _));have bg:Hid (Below X w W):=jq (by rw[<-hW];exact (((((db.out.setCell (by dsimp only;omega) _).setCell (by dsimp only;omega) _).setCell (by dsimp only;omega) _).setCell (by dsimp only;omega) _).setCell (by dsimp only;omega) _));have AR:W.heap.size=w5.heap.size:=by rw[<-hW];simp
 have e0:W.cell? ⟨Y,0,none⟩=some (.string s):=by rw[<-hW];simp[go_sem,y0]
 have e1:W.cell? ⟨Y,1,none⟩=some (.int .i64 ty):=by rw[<-hW];simp[go_sem,y1]
 have e2:W.cell? ⟨Y,2,none⟩=some (.int .i64 life):=by rw[<-hW];simp[go_sem,y2]
 have e3:W.cell? ⟨Y,3,none⟩=some (.slice A3 n3 c3):=by rw[<-hW];simp[go_sem,y3]
 have e4:W.cell? ⟨Y,4,none⟩=some (.slice A4 n4 c4):=by rw[<-hW];simp[go_sem,y4]
 rw[hW];refine bodyPost_ret (v:=.agg #[.string s,.int .i64 ty,.int .i64 life,.slice A3 n3 c3,.slice A4 n4 c4]) ?_ rfl ⟨_,_,rfl,λM hM=>?_,by rw[iF.out];exact bg.out⟩
 ·simp[results,results84,go_sem,e0,e1,e2,e3,e4]
 ·have h1:=(no.out.sans (M:=M) (λk hk=>by have:=hM k hk;have:=iF.out;omega) (λ_ _ h=>h)).slr bD (by rw[eW];omega) (by omega);have h2:=(iY.out.sans (M:=M) (λk hk=>by have:=hM k hk;have:=iF.out;omega) (λ_ _ h=>h)).slr cZ (by rw[eW];omega) (by omega);rw[eW] at h1 h2;exact⟨h1,h2⟩
end
section
open Go.RowKit Go.Shelf
attribute [local go_sem] Oper.semAt_some
def Np.Fq(s:Np.Signed)(drift stop:Int):List Np.Span:=if Np.l7 s drift stop<=Np.l6 s drift then [] else [⟨Np.l6 s drift,Np.l7 s drift stop⟩]
theorem Np.LY{s:Np.Signed}{drift stop:Int}(h:Np.fR s drift stop=0):Np.ew s drift stop=Np.Fq s drift stop:=by unfold Np.ew;rw[Qb h];rfl
def Np.WinB(gs:List Np.Sig):Prop:=∀ g,gs[0]?=some g->0<=g.frm/\g.frm<=g.til/\g.til<=20000000
theorem Np.VZ{s:Np.Signed}(h:Np.plain s=true):Np.WinB s.sigs:=λg hg=>by
 have h1:Np.jM s.sigs=true:=by simp only[Np.plain,Bool.and_eq_true] at h;exact h.2
 refine Decidable.byContradiction λhn=>?_;rw[Np.VW hg hg (λhi=>hn ⟨hi.2.2.1,hi.2.2.2.1,hi.2.2.2.2⟩)] at h1
 cases h1
end
end Go.Proofs.YtfnopgdcaanaiaaGreatDoor
