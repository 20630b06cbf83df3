/- Parts of the proof. No condition. -/
import Derived.Test.YtfnopgdcaanaiaaGreatDoorU16
set_option linter.all false
set_option maxRecDepth 100000
set_option maxHeartbeats 8000000
namespace Go.Proofs.YtfnopgdcaanaiaaGreatDoor
open Go.Proofs.Tryz
section
open Go.RowKit
theorem bj.formL{α:Type}{R:afQ α}{sz:Nat}{e:TypeId}{base B:Nat}{w:World}{v:Value}{xs:List α}(h:bj R sz e base B w v xs):∃ A c,v = .slice A xs.length c:=by
 obtain⟨rows,_,h2,_⟩:=h;exact qz h2
theorem bj.setLow{α:Type}{R:afQ α}{sz:Nat}{e:TypeId}{base B:Nat}{w:World}{v:Value}{xs:List α}(h:bj R sz e base B w v xs)(hr:∀ w' r x,R w B r x->R w' B r x){p:Addr}(hp:p.block<base)(u:Value):bj R sz e base B (w.setCell p u) v xs:=by
 obtain⟨rows,h1,h2,h3⟩:=h;exact⟨rows,h1,ownsRow_setCell_below h2 hp u,λi r x hr' hx=>⟨(h3 i r x hr' hx).1,hr _ _ _ (h3 i r x hr' hx).2⟩⟩
theorem bj.sans{α:Type}{R:afQ α}{sz:Nat}{e:TypeId}{base B:Nat}{w:World}{v:Value}{xs:List α}(h:bj R sz e base B w v xs){M:Nat->Prop}(hM:∀ k,M k->k<base)(hr:∀ r x,R w B r x->R (be w M) B r x):bj R sz e base B (be w M) v xs:=by
 obtain⟨rows,h1,h2,h3⟩:=h;exact⟨rows,h1,cM h2 (λg hg=>kf (λhm=>by have:=(h2.lt g hg).1;have:=hM g hm;omega)),λi r x hr' hx=>⟨(h3 i r x hr' hx).1,hr _ _ (h3 i r x hr' hx).2⟩⟩
def AB(n:Nat)(w:World)(dv sv:Value)(d:List Np.Datum)(g:List Np.Sig):Prop:=∀ M:Nat->Prop,(∀ k,M k->k<n)->SlR bW 3 (be w M) w.heap.size dv d/\SlR cV 6 (be w M) w.heap.size sv g
theorem RC(s:ByteArray)(ty life:Int)(dv:Value)(d:List Np.Datum)(sv:Value)(g:List Np.Sig)(yG:d.length<=1000000)(yP:g.length<=1000000)(w:World)(hd:SlR bW 3 w w.heap.size dv d)(hg:SlR cV 6 w w.heap.size sv g) :
 Calls prog 71 #[.agg #[.string s,.int .i64 ty,.int .i64 life,dv,sv]] w λe w'=>∃ dv' sv',e = .returned (.agg #[.string s,.int .i64 ty,.int .i64 life,dv',sv'])/\AB w.heap.size w' dv' sv' d g/\Below w.heap.size w w':=by
 have HD:=jq hd;have HG:=jq hg;obtain⟨A1,c1,rfl,_,_⟩:=aj hd;obtain⟨A2,c2,rfl,_,_⟩:=aj hg;clear hd hg;obtain⟨n1,bG⟩:=abK d.length;obtain⟨n2,ct⟩:=abK g.length;rw[bG] at HD |-;rw[ct] at HG |-;clear bG ct;obtain⟨w1,ak⟩:=abK ((w.alloc (.cells #[.string s,.int .i64 ty,.int .i64 life,.slice A1 n1 c1,.slice A2 n2 c2] 42)).alloc (.cells #[.string ⟨#[]⟩,.int .i64 0,.int .i64 0,.slice none 0 0,.slice none 0 0] 42));have ar:Hid (Below w.heap.size w w1):=jq (by rw[<-ak];exact ((vQ _ _).alloc (bQ _) _).alloc (by simp) _);have bg:w1.heap.size=w.heap.size+2:=by rw[<-ak];simp
 obtain⟨X,hX⟩:=abK w.heap.size;obtain⟨Y,hY⟩:=abK (X+1);have k0:w1.cell? ⟨X,0,none⟩=some (.string s):=by rw[<-ak,<-hX];simp[go_sem]
 have k1:w1.cell? ⟨X,1,none⟩=some (.int .i64 ty):=by rw[<-ak,<-hX];simp[go_sem]
 have k2:w1.cell? ⟨X,2,none⟩=some (.int .i64 life):=by rw[<-ak,<-hX];simp[go_sem]
 have k3:w1.cell? ⟨X,3,none⟩=some (.slice A1 n1 c1):=by rw[<-ak,<-hX];simp[go_sem]
 have k4:w1.cell? ⟨X,4,none⟩=some (.slice A2 n2 c2):=by rw[<-ak,<-hX];simp[go_sem]
 have kf3:w1.frozen? ⟨X,3,none⟩=false:=by rw[<-ak,<-hX];simp[go_sem]
 have kf4:w1.frozen? ⟨X,4,none⟩=false:=by rw[<-ak,<-hX];simp[go_sem]
 have qg:w1.heap[Y]?=some (.cells #[.string ⟨#[]⟩,.int .i64 0,.int .i64 0,.slice none 0 0,.slice none 0 0] 42):=by
  rw[<-ak,<-hY,<-hX]
  have:=heap_alloc_new (w.alloc (.cells #[.string s,.int .i64 ty,.int .i64 life,.slice A1 n1 c1,.slice A2 n2 c2] 42)) (.cells #[.string ⟨#[]⟩,.int .i64 0,.int .i64 0,.slice none 0 0,.slice none 0 0] 42)
  simpa using this
 have gK:=jq hX;go_enter func71,ntmps71;go_wp2_with fail;rw[hX] at HD HG ar bg;clear ak hX;refine (J2 _ d yG _ ((HD.out.keep cu ar.out).more cS (by omega))).mono ?_;rintro e w2 ⟨v2,rfl,gh,ab⟩;have aO:=ab.size;replace k0:=abZ ab k0;replace k1:=abZ ab k1;replace k2:=abZ ab k2;replace k3:=abZ ab k3;replace k4:=abZ ab k4;replace kf3:=(ab.frozen (p:=⟨X,3,none⟩) (by dsimp only;omega)).trans kf3;replace kf4:=(ab.frozen (p:=⟨X,4,none⟩) (by dsimp only;omega)).trans kf4;replace qg:=(ab.block Y (by omega)).trans qg;have dh:=jq gh;have ai:=abJ ar ab;obtain⟨A3,c3,rfl⟩:=gh.formL;clear gh ab;obtain⟨n3,dL⟩:=abK d.length;rw[dL] at dh |-;obtain⟨w3,cI⟩:=abK (w2.setCell ⟨X,3,none⟩ (.slice A3 n3 c3));have fW:w3.heap.size=w2.heap.size:=by rw[<-cI];simp
 have aB:Hid (Below X w w3):=jq (by rw[<-cI];exact ai.out.setCell (bQ _) _);have ig:Hid (bj bW 3 128 w1.heap.size w1.heap.size w3 (.slice A3 n3 c3) d):=jq (by rw[<-cI];exact dh.out.setLow (λ_ _ _ h=>h) (by dsimp only;omega) _);have j0:w3.cell? ⟨X,0,none⟩=some (.string s):=by rw[<-cI];exact (xQ _ _ _ _ (by simp)).trans k0
 have j1:w3.cell? ⟨X,1,none⟩=some (.int .i64 ty):=by rw[<-cI];exact (xQ _ _ _ _ (by simp)).trans k1
 have j2:w3.cell? ⟨X,2,none⟩=some (.int .i64 life):=by rw[<-cI];exact (xQ _ _ _ _ (by simp)).trans k2
 have j3:w3.cell? ⟨X,3,none⟩=some (.slice A3 n3 c3):=by rw[<-cI];exact World.cell?_setCell_same _ _ _ k3
 have j4:w3.cell? ⟨X,4,none⟩=some (.slice A2 n2 c2):=by rw[<-cI];exact (xQ _ _ _ _ (by simp)).trans k4
 have jf4:w3.frozen? ⟨X,4,none⟩=false:=by rw[<-cI];exact (World.frozen?_setCell _ _ _ _).trans kf4
 have jobj:=(wQ w2 ⟨X,3,none⟩ (.slice A3 n3 c3) Y (by dsimp only;omega)).trans qg;rw[cI] at jobj;go_wp2_with fail;clear cI k0 k1 k2 k3 k4 kf3 kf4 qg;refine (J3 _ g yP _ ((HG.out.keep cT aB.out).more dU (by omega))).mono ?_;rintro e w4 ⟨v4,rfl,me,aq⟩;have gX:=aq.size;replace j0:=abZ aq j0;replace j1:=abZ aq j1;replace j2:=abZ aq j2;replace j3:=abZ aq j3;replace j4:=abZ aq j4;replace jf4:=(aq.frozen (p:=⟨X,4,none⟩) (by dsimp only;omega)).trans jf4;replace jobj:=(aq.block Y (by omega)).trans jobj;have sK:=jq me;have Es:=jq (ig.out.keep cu aq (by omega));have bJ:=abJ aB aq;obtain⟨A4,c4,rfl⟩:=me.formL;clear me aq;obtain⟨n4,ef⟩:=abK g.length;rw[ef] at sK |-;obtain⟨w5,aJ⟩:=abK (w4.setCell ⟨X,4,none⟩ (.slice A4 n4 c4));have kJ:w5.heap.size=w4.heap.size:=by rw[<-aJ];simp
 have cO:Hid (Below X w w5):=jq (by rw[<-aJ];exact bJ.out.setCell (bQ _) _);have lM:Hid (bj cV 6 50 w3.heap.size w3.heap.size w5 (.slice A4 n4 c4) g):=jq (by rw[<-aJ];exact sK.out.setLow (λ_ _ _ h=>h) (by dsimp only;omega) _);have qL:Hid (bj bW 3 128 w1.heap.size w1.heap.size w5 (.slice A3 n3 c3) d):=jq (by rw[<-aJ];exact Es.out.setLow (λ_ _ _ h=>h) (by dsimp only;omega) _);have m0:w5.cell? ⟨X,0,none⟩=some (.string s):=by rw[<-aJ];exact (xQ _ _ _ _ (by simp)).trans j0
 have m1:w5.cell? ⟨X,1,none⟩=some (.int .i64 ty):=by rw[<-aJ];exact (xQ _ _ _ _ (by simp)).trans j1
 have m2:w5.cell? ⟨X,2,none⟩=some (.int .i64 life):=by rw[<-aJ];exact (xQ _ _ _ _ (by simp)).trans j2
 have m3:w5.cell? ⟨X,3,none⟩=some (.slice A3 n3 c3):=by rw[<-aJ];exact (xQ _ _ _ _ (by simp)).trans j3
 have m4:w5.cell? ⟨X,4,none⟩=some (.slice A4 n4 c4):=by rw[<-aJ];exact World.cell?_setCell_same _ _ _ j4
 have mobj:=(wQ w4 ⟨X,4,none⟩ (.slice A4 n4 c4) Y (by dsimp only;omega)).trans jobj;rw[aJ] at mobj;have y0:w5.cell? ⟨Y,0,none⟩=some (.string ⟨#[]⟩):=by simp[World.cell?,mobj]
 have z0:w5.frozen? ⟨Y,0,none⟩=false:=by simp[World.frozen?,mobj]
 have y1:w5.cell? ⟨Y,1,none⟩=some (.int .i64 0):=by simp[World.cell?,mobj]
 have z1:w5.frozen? ⟨Y,1,none⟩=false:=by simp[World.frozen?,mobj]
 have y2:w5.cell? ⟨Y,2,none⟩=some (.int .i64 0):=by simp[World.cell?,mobj]
 have z2:w5.frozen? ⟨Y,2,none⟩=false:=by simp[World.frozen?,mobj]
 have y3:w5.cell? ⟨Y,3,none⟩=some (.slice none 0 0):=by simp[World.cell?,mobj]
 have z3:w5.frozen? ⟨Y,3,none⟩=false:=by simp[World.frozen?,mobj]
 have y4:w5.cell? ⟨Y,4,none⟩=some (.slice none 0 0):=by simp[World.cell?,mobj]
 have z4:w5.frozen? ⟨Y,4,none⟩=false:=by simp[World.frozen?,mobj]
 go_wp2_with fail;obtain⟨W,hW⟩:=abK (((((w5.setCell ⟨Y,0,none⟩ (.string s)).setCell ⟨Y,1,none⟩ (.int .i64 ty)).setCell ⟨Y,2,none⟩ (.int .i64 life)).setCell ⟨Y,3,none⟩ (.slice A3 n3 c3)).setCell ⟨Y,4,none⟩ (.slice A4 n4 c4));have mB:Hid (bj bW 3 128 w1.heap.size w1.heap.size W (.slice A3 n3 c3) d):=jq (by rw[<-hW];exact (((((qL.out.setLow (λ_ _ _ h=>h) (by dsimp only;omega) _).setLow (λ_ _ _ h=>h) (by dsimp only;omega) _).setLow (λ_ _ _ h=>h) (by dsimp only;omega) _).setLow (λ_ _ _ h=>h) (by dsimp only;omega) _).setLow (λ_ _ _ h=>h) (by dsimp only;omega) _));have gq:Hid (bj cV 6 50 w3.heap.size w3.heap.size W (.slice A4 n4 c4) g):=jq (by rw[<-hW];exact (((((lM.out.setLow (λ_ _ _ h=>h) (by dsimp only;omega) _).setLow (λ_ _ _ h=>h) (by dsimp only;omega) _).setLow (λ_ _ _ h=>h) (by dsimp only;omega) _).setLow (λ_ _ _ h=>h) (by dsimp only;omega) _).setLow (λ_ _ _ h=>h) (by dsimp only;omega) _));have aL:Hid (Below X w W):=jq (by rw[<-hW];exact (((((cO.out.setCell (by dsimp only;omega) _).setCell (by dsimp only;omega) _).setCell (by dsimp only;omega) _).setCell (by dsimp only;omega) _).setCell (by dsimp only;omega) _));have CG:W.heap.size=w5.heap.size:=by rw[<-hW];simp
 have e0:W.cell? ⟨Y,0,none⟩=some (.string s):=by rw[<-hW];simp[go_sem,y0]
 have e1:W.cell? ⟨Y,1,none⟩=some (.int .i64 ty):=by rw[<-hW];simp[go_sem,y1]
 have e2:W.cell? ⟨Y,2,none⟩=some (.int .i64 life):=by rw[<-hW];simp[go_sem,y2]
 have e3:W.cell? ⟨Y,3,none⟩=some (.slice A3 n3 c3):=by rw[<-hW];simp[go_sem,y3]
 have e4:W.cell? ⟨Y,4,none⟩=some (.slice A4 n4 c4):=by rw[<-hW];simp[go_sem,y4]
 rw[hW];refine bodyPost_ret (v:=.agg #[.string s,.int .i64 ty,.int .i64 life,.slice A3 n3 c3,.slice A4 n4 c4]) ?_ rfl ⟨_,_,rfl,λM hM=>?_,by rw[gK.out];exact aL.out⟩
 ·simp[results,results71,go_sem,e0,e1,e2,e3,e4]
 ·have h1:=(mB.out.sans (M:=M) (λk hk=>by have:=hM k hk;have:=gK.out;omega) (λ_ _ h=>h)).slr cS (by rw[gl];omega) (by omega);have h2:=(gq.out.sans (M:=M) (λk hk=>by have:=hM k hk;have:=gK.out;omega) (λ_ _ h=>h)).slr dU (by rw[gl];omega) (by omega);rw[gl] at h1 h2;exact⟨h1,h2⟩
def Np.nu(l:List Np.Signed):Prop:=l.length<=100/\∀ x∈l,x.set.data.length<=20/\x.sigs.length<=20
theorem Sh(a:ByteArray)(v:Value)(l:List Np.Signed)(w:World)(hd:SlR cA 5 w w.heap.size v l) :
 Calls prog 72 #[.agg #[.string a,v]] w λe w'=>e = .returned (.bool (Np.yes (Np.nu l)))/\Below w.heap.size w w':=by
 obtain⟨r,hr⟩:=abK (Np.yes (Np.nu l));rw[hr];have HR:=jq hr;have HD:=jq hd;obtain⟨A,c,rfl,aW,bh⟩:=aj hd;clear hr hd;obtain⟨X,hX⟩:=abK w.heap.size;obtain⟨n,hn⟩:=abK l.length;rw[hn] at HD aW bh |-;have fE:=jq hn;clear hn;obtain⟨W1,am⟩:=abK (w.alloc (.cells #[.string a,.slice A n c] 44));have aI:Below w.heap.size w W1:=by rw[<-am];exact (vQ _ _).alloc (bQ _) _
 have kL:W1.heap.size=w.heap.size+1:=by rw[<-am];simp
 have k1:W1.cell? ⟨X,1,none⟩=some (.slice A n c):=by rw[<-am,<-hX];simp[go_sem]
 rw[hX] at aI kL HD |-;have aL:=jq aI;clear aI;go_enter func72,ntmps72;go_wp2_with fail;clear am hX;go_loopw [3] (λi wr=>∃ (k:Nat),k<=n/\k<=101/\i = .int .i64 k/\Hid (Below (X+1) W1 wr)/\Hid (∀ x∈l.take k,x.set.data.length<=20/\x.sigs.length<=20)) (λi _=>n - (intOf i).toNat)
 case atStart=>exact⟨0,jQ _,jQ _,rfl,jq (vQ _ _),jq (by simp)⟩
 case round=>
  obtain⟨k,hk,akX,rfl,cw,HQ⟩:=hrel;have HB:=abJ aL cw.out;have q1:=abZ cw.out k1;have al:=cw.out.size;by_cases aa:k<n
  ·by_cases acX:k<=100
   ·have TJ:decide ((k:Int)<=100)=true:=acK;obtain⟨x,ac⟩:∃ x,l[k]?=some x:=⟨_,aQ (by rw[fE.out];exact aa)⟩;obtain⟨b,o,c',sn,dv,sv,hA,bp,_,aw,cE,aR,aN,f0,f1,f2,f3,f4⟩:=fk (HD.out.keep bI HB.out) ac
    cases hA
    obtain⟨Ad,cd,rfl,_,_⟩:=aj aR;obtain⟨As,cs,rfl,_,_⟩:=aj aN;obtain⟨nd,qf⟩:=abK x.set.data.length;obtain⟨ns,Ct⟩:=abK x.sigs.length;rw[qf] at f3;rw[Ct] at f4;have HF:Hid (¬ (nd<=20/\ns<=20)->r=false):=jq (λh=>by
     rw[<-HR.out,<-qf,<-Ct] at *;exact Np.aK λq=>h (q.2 x (gQ ac)))
    have sL:Hid (nd<=20/\ns<=20->∀ x∈l.take (k+1),x.set.data.length<=20/\x.sigs.length<=20):=jq (λh y hy=>by
     obtain⟨hl,he⟩:=cQ.1 ac;rw[fQ hl,he] at hy;rcases List.mem_append.1 hy with hy | hy
     ·exact HQ.out y hy
     ·rw[List.mem_singleton] at hy;subst hy;rw[qf,Ct];exact h)
    clear ac aw aR aN qf Ct;by_cases g1:20<nd
    ·have d1:decide (20<(nd:Int))=true:=acK;have HX:=jq (HF.out (by omega));clear g1;go_wp2_with fail;go_ret;exact⟨ae HX.out.symm,HB.out⟩
    ·have d1:decide (20<(nd:Int))=false:=acJ;by_cases g2:20<ns
     ·have d2:decide (20<(ns:Int))=true:=acK;have HX:=jq (HF.out (by omega));clear g1 g2;go_wp2_with fail;go_ret;exact⟨ae HX.out.symm,HB.out⟩
     ·have d2:decide (20<(ns:Int))=false:=acJ;have HX:=jq (sL.out (by omega));clear g1 g2;go_wp2_with fail;go_roundw
      case rel=>exact⟨k+1,by omega,by omega,by go_num,cw,HX⟩
      case measure=>simp[intOf] <;> omega
   ·have TJ:decide ((k:Int)<=100)=false:=acJ;have pW:decide ((n:Int)<=100)=false:=acJ;have HX:Hid (r=false):=jq (by rw[<-HR.out];exact Np.aK λq=>by have:=q.1;rw[fE.out] at this;omega);go_wp2_with fail;go_ret;exact⟨ae HX.out.symm,HB.out⟩
  ·have Qq:Hid (∀ x∈l,x.set.data.length<=20/\x.sigs.length<=20):=jq (by have:=HQ.out;rwa [kQ (by rw[fE.out];omega)] at this);by_cases UA:n<=100
   ·have pW:decide ((n:Int)<=100)=true:=acK;have HX:Hid (r=true):=jq (by rw[<-HR.out];exact Np.bS ⟨by rw[fE.out];exact UA,Qq.out⟩);go_wp2_with fail;go_ret;exact⟨ae HX.out.symm,HB.out⟩
   ·have pW:decide ((n:Int)<=100)=false:=acJ;have HX:Hid (r=false):=jq (by rw[<-HR.out];exact Np.aK λq=>by have:=q.1;rw[fE.out] at this;omega);go_wp2_with fail;go_ret;exact⟨ae HX.out.symm,HB.out⟩
def Np.pg(h:Np.Hist):Prop:=(h.copies.length<=20/\h.hosts.length<=70/\h.hints.length<=20/\h.anchor.data.length<=20)/\(∀ c∈h.copies,Np.nu c.zone.sets/\c.zone.apex.length<=100)/\∀ x∈h.hosts,x.name.length<=100
theorem Sg(e:List Value)(h:Np.Hist)(w:World)(hh:jg w w.heap.size e h) :
 Calls prog 26 #[.agg e.toArray] w λe w'=>e = .returned (.bool (Np.yes (Np.pg h)))/\Below w.heap.size w w':=by
 obtain⟨hv,cv,s,dv,cX,rfl,_,_,h3,h4,h5',h6⟩:=hh;obtain⟨hosts,copies,⟨name,ty,life,data⟩,hints,drift,stop⟩:=h;dsimp only at h3 h4 h5' h6 |-;have HD:=jq h4;have HH:=jq h3;obtain⟨A1,c1,rfl,_,_⟩:=aj h3;obtain⟨A2,c2,rfl,_,_⟩:=aj h4;obtain⟨A3,c3,rfl,_,_⟩:=aj h5';obtain⟨A4,c4,rfl,_,_⟩:=aj h6;clear h3 h4 h5' h6;obtain⟨n1,bG⟩:=abK hosts.length;obtain⟨n2,ct⟩:=abK copies.length;obtain⟨n3,dL⟩:=abK data.length;obtain⟨n4,ef⟩:=abK hints.length;rw[bG,ct,dL,ef];rw[ct] at HD;rw[bG] at HH;have k9:=jq bG;have Bc:=jq dL;have Ei:=jq ef;have fE:=jq ct;clear bG ct dL ef;obtain⟨r,hr⟩:=abK (Np.yes (Np.pg ⟨hosts,copies,⟨name,ty,life,data⟩,hints,drift,stop⟩));rw[hr];have HR:=jq hr;have pr:Hid (Np.pg ⟨hosts,copies,⟨name,ty,life,data⟩,hints,drift,stop⟩↔(n2<=20/\n1<=70/\n4<=20/\n3<=20)/\(∀ c∈copies,Np.nu c.zone.sets/\c.zone.apex.length<=100)/\∀ h∈hosts,h.name.length<=100):=jq (by unfold Np.pg;dsimp only;rw[fE.out,k9.out,Bc.out,Ei.out]);clear hr;obtain⟨X,hX⟩:=abK w.heap.size;have gK:=jq hX;obtain⟨W1,am⟩:=abK (w.alloc (.cells #[.slice A1 n1 c1,.slice A2 n2 c2,.string s,.int .i64 ty,.int .i64 life,.slice A3 n3 c3,.slice A4 n4 c4,.int .i64 drift,.int .i64 stop] 29));have aI:Below w.heap.size w W1:=by rw[<-am];exact (vQ _ _).alloc (bQ _) _
 have kL:W1.heap.size=w.heap.size+1:=by rw[<-am];simp
 have k0:W1.cell? ⟨X,0,none⟩=some (.slice A1 n1 c1):=by rw[<-am,<-hX];simp[go_sem]
 have k5:W1.cell? ⟨X,5,none⟩=some (.slice A3 n3 c3):=by rw[<-am,<-hX];simp[go_sem]
 have k6:W1.cell? ⟨X,6,none⟩=some (.slice A4 n4 c4):=by rw[<-am,<-hX];simp[go_sem]
 have k1:W1.cell? ⟨X,1,none⟩=some (.slice A2 n2 c2):=by rw[<-am,<-hX];simp[go_sem]
 rw[hX] at aI kL HD HH |-;have aL:=jq aI;clear aI;go_enter func26,ntmps26;go_wp2_with fail;clear am hX;go_loopw [3] (λi wr=>∃ (k:Nat),k<=n2/\k<=21/\i = .int .i64 k/\Hid (Below (X+1) W1 wr)/\Hid (∀ c∈copies.take k,Np.nu c.zone.sets/\c.zone.apex.length<=100)) (λi _=>n2 - (intOf i).toNat)
 case atStart=>exact⟨0,jQ _,jQ _,rfl,jq (vQ _ _),jq (by simp)⟩
 case round=>
  obtain⟨k,hk,akY,rfl,cw,HQ⟩:=hrel;have HB:=abJ aL cw.out;have al:=cw.out.size;have q0:=abZ cw.out k0;have q1:=abZ cw.out k1;have q5:=abZ cw.out k5;have q6:=abZ cw.out k6;by_cases iR:k<n2/\k<=20
  ·obtain⟨aa,bn⟩:=iR;have ahY:decide ((k:Int)<=20)=true:=acK;obtain⟨x,ac⟩:∃ x,copies[k]?=some x:=⟨_,aQ (by rw[fE.out];exact aa)⟩;obtain⟨b,o,sn,vz,rfl,bp,aw,cE,fh,f0,f1,f2,f3,f4⟩:=ta (HD.out.keep nj HB.out) ac;have aS:Hid (x.zone.apex.length=sn.size):=jq (by rw[<-aw,aX]);have lh:Hid (SlR cA 5 wr wr.heap.size vz x.zone.sets):=jq (fh.more eF (by omega));obtain⟨rz,dN⟩:=abK (Np.yes (Np.nu x.zone.sets));have ij:=jq dN;have HF:Hid (¬ (Np.nu x.zone.sets/\x.zone.apex.length<=100)->r=false):=jq (λh=>by
    rw[<-HR.out];exact Np.aK λq=>h ((pr.out.1 q).2.1 x (gQ ac)))
   have sL:Hid (Np.nu x.zone.sets/\x.zone.apex.length<=100->∀ c∈copies.take (k+1),Np.nu c.zone.sets/\c.zone.apex.length<=100):=jq (λh y hy=>by
    obtain⟨hl,he⟩:=cQ.1 ac;rw[fQ hl,he] at hy;rcases List.mem_append.1 hy with hy | hy
    ·exact HQ.out y hy
    ·rw[List.mem_singleton] at hy;subst hy;exact h)
   obtain⟨Az,cz,rfl,_,_⟩:=aj fh;obtain⟨nz,iU⟩:=abK x.zone.sets.length;rw[iU] at f4 lh;clear ac aw fh iU dN;go_wp2_with fail;refine (Sh sn _ x.zone.sets _ lh.out).mono ?_;rintro e w3 ⟨rfl,ah⟩;have fW:=ah.size;have g3:=abZ ah f3;have g1:=abZ ah q1;have aB:=abJ HB ah;have DN:=abJ cw ah;clear ah;rw[ij.out]
   cases rz with
   | false=>
    have HX:=jq (HF.out (λh=>by have:=Np.bS h.1;rw[ij.out] at this;cases this));go_wp2_with fail;go_ret;exact⟨ae HX.out.symm,aB.out⟩
   | true=>
    by_cases hs:100<sn.size
    ·have d2:decide (100<(sn.size:Int))=true:=acK;have HX:=jq (HF.out (λh=>by have:=h.2;rw[aS.out] at this;omega));clear hs;go_wp2_with fail;go_ret;exact⟨ae HX.out.symm,aB.out⟩
    ·have d2:decide (100<(sn.size:Int))=false:=acJ;have HX:=jq (sL.out ⟨Np.fo.1 ij.out,by rw[aS.out];omega⟩);clear hs;go_wp2_with fail;go_roundw
     case rel=>exact⟨k+1,by omega,by omega,by go_num,jq DN.out,HX⟩
     case measure=>simp[intOf] <;> omega
  ·have nN:(decide ((k:Int)<(n2:Int))=false)\/(decide ((k:Int)<(n2:Int))=true/\decide ((k:Int)<=20)=false):=by
    by_cases h1:k<n2
    ·exact .inr ⟨acK,acJ⟩
    ·exact .inl (acJ)
   have kW:Hid (n2<=20->∀ c∈copies,Np.nu c.zone.sets/\c.zone.apex.length<=100):=jq (λh=>by
    have:=HQ.out
    rwa [kQ (by rw[fE.out];omega)] at this)
   obtain⟨wo,rfl⟩:=abX wr;clear nN;have FO:k<n2->decide ((k:Int)<=20)=false:=λh=>acJ;by_cases mT:k<n2
   ·have db:=FO mT;clear iR FO;go_wp2_with fail;go_loopw [4] (λi wi=>∃ (j:Nat),j<=n1/\j<=71/\i = .int .i64 j/\Hid (Below wo.heap.size wo wi)/\Hid (∀ x∈hosts.take j,x.name.length<=100)) (λi _=>n1 - (intOf i).toNat)
    case atStart=>exact⟨0,jQ _,jQ _,rfl,jq (vQ _ _),jq (by simp)⟩
    case round=>
     obtain⟨j,hj,Uh,rfl,cr,HP⟩:=hrel;have jb:=abJ HB cr.out;have rO:=cr.out.size;have u0:=abZ cr.out q0;have u1:=abZ cr.out q1;have u5:=abZ cr.out q5;have u6:=abZ cr.out q6;by_cases iR:j<n1/\j<=70
     ·obtain⟨aa,SY⟩:=iR;have TL:decide ((j:Int)<=70)=true:=acK;obtain⟨x,ac⟩:∃ x,hosts[j]?=some x:=⟨_,aQ (by rw[k9.out];exact aa)⟩;obtain⟨b,o,sn,rfl,bp,aw,cE,f0,f1,f2⟩:=zj (HH.out.keep nl jb.out) ac;have aS:Hid (x.name.length=sn.size):=jq (by rw[<-aw,aX]);have HF:Hid (¬ x.name.length<=100->r=false):=jq (λh=>by
       rw[<-HR.out];exact Np.aK λq=>h ((pr.out.1 q).2.2 x (gQ ac)))
      have xm:Hid (x.name.length<=100->∀ c∈hosts.take (j+1),c.name.length<=100):=jq (λh y hy=>by
       obtain⟨hl,he⟩:=cQ.1 ac;rw[fQ hl,he] at hy;rcases List.mem_append.1 hy with hy | hy
       ·exact HP.out y hy
       ·rw[List.mem_singleton] at hy;subst hy;exact h)
      clear ac aw;by_cases hs:100<sn.size
      ·have d2:decide (100<(sn.size:Int))=true:=acK;have HX:=jq (HF.out (λh=>by rw[aS.out] at h;omega));clear hs;go_wp2_with fail;go_ret;exact⟨ae HX.out.symm,jb.out⟩
      ·have d2:decide (100<(sn.size:Int))=false:=acJ;have HX:=jq (xm.out (by rw[aS.out];omega));clear hs;go_wp2_with fail;go_roundw
       case rel=>exact⟨j+1,by omega,by omega,by go_num,cr,HX⟩
       case measure=>simp[intOf] <;> omega
     ·have tA:j<n1->decide ((j:Int)<=70)=false:=λh=>acJ;have DZ:Hid (n1<=70->∀ x∈hosts,x.name.length<=100):=jq (λh=>by
       have:=HP.out
       rwa [kQ (by rw[k9.out];omega)] at this)
      have tK:(20<n2\/70<n1\/20<n4\/20<n3)->r=false:=λh=>by rw[<-HR.out];exact Np.aK λq=>by have:=(pr.out.1 q).1;omega
      have El:=jq tK;have xE:Hid (n2<=20/\n1<=70/\n4<=20/\n3<=20->r=true):=jq (λh=>by rw[<-HR.out];exact Np.bS (pr.out.2 ⟨h,kW.out h.1,DZ.out h.2.1⟩));clear iR tK;have aY:∃ c1 c2 c3 c4:Bool,decide ((n2:Int)<=20)=c1/\decide ((n1:Int)<=70)=c2/\decide ((n4:Int)<=20)=c3/\decide ((n3:Int)<=20)=c4/\Hid (r=(c1&&c2&&c3&&c4)):=by
       refine⟨_,_,_,_,rfl,rfl,rfl,rfl,jq ?_⟩;by_cases h:n2<=20/\n1<=70/\n4<=20/\n3<=20
       ·rw[xE.out h,acK,acK,acK,uQ (by omega)];rfl
       ·rw[El.out (by omega)]
        symm
        rw[Bool.eq_false_iff];intro hb;simp only[Bool.and_eq_true,Qa] at hb;omega
      obtain⟨c1',c2',c3',c4',e1,e2,e3,e4,xq⟩:=aY;by_cases nS:j<n1
      ·have ir:=tA nS;clear tA
       cases c1' <;> cases c2' <;> cases c3' <;> cases c4'
       all_goals
        go_wp2_with fail;go_ret;exact⟨ae xq.out.symm,jb.out⟩
      ·have ir:=nS;clear tA
       cases c1' <;> cases c2' <;> cases c3' <;> cases c4'
       all_goals
        go_wp2_with fail;go_ret;exact⟨ae xq.out.symm,jb.out⟩
   ·clear iR FO;go_wp2_with fail;go_loopw [4] (λi wi=>∃ (j:Nat),j<=n1/\j<=71/\i = .int .i64 j/\Hid (Below wo.heap.size wo wi)/\Hid (∀ x∈hosts.take j,x.name.length<=100)) (λi _=>n1 - (intOf i).toNat)
    case atStart=>exact⟨0,jQ _,jQ _,rfl,jq (vQ _ _),jq (by simp)⟩
    case round=>
     obtain⟨j,hj,Uh,rfl,cr,HP⟩:=hrel;have jb:=abJ HB cr.out;have rO:=cr.out.size;have u0:=abZ cr.out q0;have u1:=abZ cr.out q1;have u5:=abZ cr.out q5;have u6:=abZ cr.out q6;by_cases iR:j<n1/\j<=70
     ·obtain⟨aa,SY⟩:=iR;have TL:decide ((j:Int)<=70)=true:=acK;obtain⟨x,ac⟩:∃ x,hosts[j]?=some x:=⟨_,aQ (by rw[k9.out];exact aa)⟩;obtain⟨b,o,sn,rfl,bp,aw,cE,f0,f1,f2⟩:=zj (HH.out.keep nl jb.out) ac;have aS:Hid (x.name.length=sn.size):=jq (by rw[<-aw,aX]);have HF:Hid (¬ x.name.length<=100->r=false):=jq (λh=>by
       rw[<-HR.out];exact Np.aK λq=>h ((pr.out.1 q).2.2 x (gQ ac)))
      have xm:Hid (x.name.length<=100->∀ c∈hosts.take (j+1),c.name.length<=100):=jq (λh y hy=>by
       obtain⟨hl,he⟩:=cQ.1 ac;rw[fQ hl,he] at hy;rcases List.mem_append.1 hy with hy | hy
       ·exact HP.out y hy
       ·rw[List.mem_singleton] at hy;subst hy;exact h)
      clear ac aw;by_cases hs:100<sn.size
      ·have d2:decide (100<(sn.size:Int))=true:=acK;have HX:=jq (HF.out (λh=>by rw[aS.out] at h;omega));clear hs;go_wp2_with fail;go_ret;exact⟨ae HX.out.symm,jb.out⟩
      ·have d2:decide (100<(sn.size:Int))=false:=acJ;have HX:=jq (xm.out (by rw[aS.out];omega));clear hs;go_wp2_with fail;go_roundw
       case rel=>exact⟨j+1,by omega,by omega,by go_num,cr,HX⟩
       case measure=>simp[intOf] <;> omega
     ·have tA:j<n1->decide ((j:Int)<=70)=false:=λh=>acJ;have DZ:Hid (n1<=70->∀ x∈hosts,x.name.length<=100):=jq (λh=>by
       have:=HP.out
       rwa [kQ (by rw[k9.out];omega)] at this)
      have tK:(20<n2\/70<n1\/20<n4\/20<n3)->r=false:=λh=>by rw[<-HR.out];exact Np.aK λq=>by have:=(pr.out.1 q).1;omega
      have El:=jq tK;have xE:Hid (n2<=20/\n1<=70/\n4<=20/\n3<=20->r=true):=jq (λh=>by rw[<-HR.out];exact Np.bS (pr.out.2 ⟨h,kW.out h.1,DZ.out h.2.1⟩));clear iR tK;have aY:∃ c1 c2 c3 c4:Bool,decide ((n2:Int)<=20)=c1/\decide ((n1:Int)<=70)=c2/\decide ((n4:Int)<=20)=c3/\decide ((n3:Int)<=20)=c4/\Hid (r=(c1&&c2&&c3&&c4)):=by
       refine⟨_,_,_,_,rfl,rfl,rfl,rfl,jq ?_⟩;by_cases h:n2<=20/\n1<=70/\n4<=20/\n3<=20
       ·rw[xE.out h,acK,acK,acK,uQ (by omega)];rfl
       ·rw[El.out (by omega)]
        symm
        rw[Bool.eq_false_iff];intro hb;simp only[Bool.and_eq_true,Qa] at hb;omega
      obtain⟨c1',c2',c3',c4',e1,e2,e3,e4,xq⟩:=aY;by_cases nS:j<n1
      ·have ir:=tA nS;clear tA
       cases c1' <;> cases c2' <;> cases c3' <;> cases c4'
       all_goals
        go_wp2_with fail;go_ret;exact⟨ae xq.out.symm,jb.out⟩
      ·have ir:=nS;clear tA
       cases c1' <;> cases c2' <;> cases c3' <;> cases c4'
       all_goals
        go_wp2_with fail;go_ret;exact⟨ae xq.out.symm,jb.out⟩
structure Np.Use(h:Np.Hist):Prop where
 copies:h.copies.length<=21
 hosts:h.hosts.length<=70
 hints:h.hints.length<=20
 data:h.anchor.data.length<=20
 each:∀ c∈h.copies,Np.nu c.zone.sets
theorem Np.pg.use{h:Np.Hist}(k:Np.pg h):Np.Use h:=
 ⟨by have:=k.1.1;omega,k.1.2.1,k.1.2.2.1,k.1.2.2.2,λc hc=>(k.2.1 c hc).1⟩
theorem Np.Use.withC{h:Np.Hist}(k:Np.Use h){l:List Np.Copy}(hl:l.length<=21)(hz:∀ d∈l,∃ c∈h.copies,d.zone=c.zone):Np.Use (Np.withC h l):=
 ⟨hl,k.hosts,k.hints,k.data,λd hd=>by
  obtain⟨c,hc,e⟩:=hz d hd;rw[e];exact k.each c hc⟩
theorem Np.lS.withC{h:Np.Hist}(k:Np.lS h){l:List Np.Copy}(hz:∀ d∈l,∃ c∈h.copies,d.zone=c.zone):Np.lS (Np.withC h l):=λd hd s hs=>by
 obtain⟨c,hc,e⟩:=hz d hd;rw[e] at hs;exact k c hc s hs
theorem Np.Use.fewH{h:Np.Hist}(k:Np.Use h):Np.ww h:=
 ⟨by have:=k.copies;omega,λc hc=>by have:=(k.each c hc).1;omega⟩
theorem Np.Use.sets{h:Np.Hist}(k:Np.Use h):∀ c∈h.copies,∀ x∈c.zone.sets,x.set.data.length<=100000/\x.sigs.length<=100000:=λc hc x hx=>by
 have:=(k.each c hc).2 x hx
 omega
theorem Np.Xc{l:List Np.Copy}{n:Nat}(h:∀ c∈l,c.zone.sets.length<=n)(zone:List UInt8):(Np.cN l zone).length<=l.length * n:=by
 induction l with
 | nil=>simp[Np.cN,Np.s9]
 | cons c l ih=>
  have h1:=ih (λd hd=>h d (mQ _ hd));have h2:=h c (by simp);have e:=Np.M2 [c] l zone;rw[List.singleton_append] at e;rw[e,List.length_append,List.length_cons,Nat.add_mul,Nat.one_mul];have h3:(Np.cN [c] zone).length<=n:=by
   unfold Np.cN Np.s9;rw[List.filter_cons,List.filter_nil];split
   ·simp[Np.m9];exact h2
   ·simp
  omega
theorem Np.Use.pairs{h:Np.Hist}(k:Np.Use h)(zone:List UInt8):(Np.cN h.copies zone).length<=5000:=by
 have h1:=Np.Xc (λc hc=>(k.each c hc).1) zone;have h2:=Nat.mul_le_mul_right 100 k.copies;omega
theorem Np.Use.cut{h:Np.Hist}(k:Np.pg h)(j:Nat)(a:Int):Np.Use (Np.withC h (Np.tb h.copies j a)):=
 k.use.withC (by have h1:=Np.RX h.copies j a;have h2:=k.1.1;omega) (λd hd=>by
  obtain⟨c,hc,_,h2,_⟩:=Np.Kg hd;exact⟨c,hc,h2⟩)
theorem Np.lS.cut{h:Np.Hist}(k:Np.lS h)(j:Nat)(a:Int):Np.lS (Np.withC h (Np.tb h.copies j a)):=
 k.withC (λd hd=>by
  obtain⟨c,hc,_,h2,_⟩:=Np.Kg hd;exact⟨c,hc,h2⟩)
theorem Np.Use.short{h:Np.Hist}(k:Np.pg h)(u:Int):Np.Use (Np.withC h (Np.vV h.copies u)):=
 k.use.withC (by have h1:=Np.YO h.copies u;have h2:=k.1.1;omega) (λd hd=>by
  obtain⟨c,hc,rfl,_⟩:=Np.MH.1 hd;exact⟨c,hc,rfl⟩)
theorem Np.lS.short{h:Np.Hist}(k:Np.lS h)(u:Int):Np.lS (Np.withC h (Np.vV h.copies u)):=
 k.withC (λd hd=>by
  obtain⟨c,hc,rfl,_⟩:=Np.MH.1 hd;exact⟨c,hc,rfl⟩)
end
end Go.Proofs.YtfnopgdcaanaiaaGreatDoor
