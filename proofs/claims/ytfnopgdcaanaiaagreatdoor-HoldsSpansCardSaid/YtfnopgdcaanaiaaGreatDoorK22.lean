/- Parts of the proof. No condition. -/
import Derived.Test.YtfnopgdcaanaiaaGreatDoorK19
set_option linter.all false
set_option maxRecDepth 100000
set_option maxHeartbeats 8000000
namespace Go.Proofs.YtfnopgdcaanaiaaGreatDoor
open Go.Proofs.Tryz
section
open Go.RowKit
theorem bn.formL{α:Type}{R:World->Nat->List Value->α->Prop}{sz:Nat}{e:TypeId}{base B:Nat}{w:World}{v:Value}{xs:List α}(h:bn R sz e base B w v xs):∃ A c,v = .slice A xs.length c:=by
 obtain⟨rows,_,h2,_⟩:=h;exact yS h2
theorem bn.setLow{α:Type}{R:World->Nat->List Value->α->Prop}{sz:Nat}{e:TypeId}{base B:Nat}{w:World}{v:Value}{xs:List α}(h:bn R sz e base B w v xs)(hr:∀ w' r x,R w B r x->R w' B r x){p:Addr}(hp:p.block<base)(u:Value):bn R sz e base B (w.setCell p u) v xs:=by
 obtain⟨rows,h1,h2,h3⟩:=h;exact⟨rows,h1,ownsRow_setCell_below h2 hp u,λi r x hr' hx=>⟨(h3 i r x hr' hx).1,hr _ _ _ (h3 i r x hr' hx).2⟩⟩
theorem bn.sans{α:Type}{R:World->Nat->List Value->α->Prop}{sz:Nat}{e:TypeId}{base B:Nat}{w:World}{v:Value}{xs:List α}(h:bn R sz e base B w v xs){M:Nat->Prop}(hM:∀ k,M k->k<base)(hr:∀ r x,R w B r x->R (bi w M) B r x):bn R sz e base B (bi w M) v xs:=by
 obtain⟨rows,h1,h2,h3⟩:=h;exact⟨rows,h1,gp h2 (λg hg=>kS (λhm=>by have:=(h2.lt g hg).1;have:=hM g hm;omega)),λi r x hr' hx=>⟨(h3 i r x hr' hx).1,hr _ _ (h3 i r x hr' hx).2⟩⟩
def Fv(n:Nat)(w:World)(dv sv:Value)(d:List Np.Datum)(g:List Np.Sig):Prop:=∀ M:Nat->Prop,(∀ k,M k->k<n)->SlR bF 3 (bi w M) w.heap.size dv d/\SlR dm 6 (bi w M) w.heap.size sv g
theorem MA(s:ByteArray)(ty life:Int)(dv:Value)(d:List Np.Datum)(sv:Value)(g:List Np.Sig)(tm:d.length<=1000000)(Bx:g.length<=1000000)(w:World)(hd:SlR bF 3 w w.heap.size dv d)(hg:SlR dm 6 w w.heap.size sv g) :
 Calls prog 71 #[.agg #[.string s,.int .i64 ty,.int .i64 life,dv,sv]] w λe w'=>∃ dv' sv',e = .returned (.agg #[.string s,.int .i64 ty,.int .i64 life,dv',sv'])/\Fv w.heap.size w' dv' sv' d g/\Below w.heap.size w w':=by
 have HD:=jq hd;have HG:=jq hg;obtain⟨A1,c1,rfl,_,_⟩:=al hd;obtain⟨A2,c2,rfl,_,_⟩:=al hg;clear hd hg;obtain⟨n1,bp⟩:∃ n,d.length=n:=⟨_,rfl⟩;obtain⟨n2,bJ⟩:∃ n,g.length=n:=⟨_,rfl⟩;rw[bp] at HD |-;rw[bJ] at HG |-;clear bp bJ;obtain⟨w1,aj⟩:∃ w1,(w.alloc (.cells #[.string s,.int .i64 ty,.int .i64 life,.slice A1 n1 c1,.slice A2 n2 c2] 42)).alloc (.cells #[.string ⟨#[]⟩,.int .i64 0,.int .i64 0,.slice none 0 0,.slice none 0 0] 42)=w1:=⟨_,rfl⟩;have ay:Hid (Below w.heap.size w w1):=jq (by rw[<-aj];exact ((vQ _ _).alloc (bQ _) _).alloc (by simp) _);have bh:w1.heap.size=w.heap.size+2:=by rw[<-aj];simp
 obtain⟨X,hX⟩:∃ X,w.heap.size=X:=⟨_,rfl⟩;obtain⟨Y,hY⟩:∃ Y,X+1=Y:=⟨_,rfl⟩;have k0:w1.cell? ⟨X,0,none⟩=some (.string s):=by rw[<-aj,<-hX];simp[go_sem]
 have k1:w1.cell? ⟨X,1,none⟩=some (.int .i64 ty):=by rw[<-aj,<-hX];simp[go_sem]
 have k2:w1.cell? ⟨X,2,none⟩=some (.int .i64 life):=by rw[<-aj,<-hX];simp[go_sem]
 have k3:w1.cell? ⟨X,3,none⟩=some (.slice A1 n1 c1):=by rw[<-aj,<-hX];simp[go_sem]
 have k4:w1.cell? ⟨X,4,none⟩=some (.slice A2 n2 c2):=by rw[<-aj,<-hX];simp[go_sem]
 have kf3:w1.frozen? ⟨X,3,none⟩=false:=by rw[<-aj,<-hX];simp[go_sem]
 have kf4:w1.frozen? ⟨X,4,none⟩=false:=by rw[<-aj,<-hX];simp[go_sem]
 have vW:w1.heap[Y]?=some (.cells #[.string ⟨#[]⟩,.int .i64 0,.int .i64 0,.slice none 0 0,.slice none 0 0] 42):=by
  rw[<-aj,<-hY,<-hX]
  have:=heap_alloc_new (w.alloc (.cells #[.string s,.int .i64 ty,.int .i64 life,.slice A1 n1 c1,.slice A2 n2 c2] 42)) (.cells #[.string ⟨#[]⟩,.int .i64 0,.int .i64 0,.slice none 0 0,.slice none 0 0] 42)
  simpa using this
 have kA:=jq hX;go_enter func71,ntmps71;go_wp2_with fail;rw[hX] at HD HG ay bh;clear aj hX;refine (Mz _ d tm _ ((HD.out.keep cH ay.out).more du (by omega))).mono ?_;rintro e w2 ⟨v2,rfl,ig,ac⟩;have aM:=ac.size;replace k0:=(cl ac (by omega)).trans k0;replace k1:=(cl ac (by omega)).trans k1;replace k2:=(cl ac (by omega)).trans k2;replace k3:=(cl ac (by omega)).trans k3;replace k4:=(cl ac (by omega)).trans k4;replace kf3:=(ac.frozen (p:=⟨X,3,none⟩) (by dsimp only;omega)).trans kf3;replace kf4:=(ac.frozen (p:=⟨X,4,none⟩) (by dsimp only;omega)).trans kf4;replace vW:=(ac.block Y (by omega)).trans vW;have aT:=jq ig;have ak:=jq (ay.out.trans (ac.mono (by omega)));obtain⟨A3,c3,rfl⟩:=ig.formL;clear ig ac;obtain⟨n3,di⟩:∃ n,d.length=n:=⟨_,rfl⟩;rw[di] at aT |-;obtain⟨w3,eU⟩:∃ w3,w2.setCell ⟨X,3,none⟩ (.slice A3 n3 c3)=w3:=⟨_,rfl⟩;have dP:w3.heap.size=w2.heap.size:=by rw[<-eU];simp
 have az:Hid (Below X w w3):=jq (by rw[<-eU];exact ak.out.setCell (bQ _) _);have gb:Hid (bn bF 3 128 w1.heap.size w1.heap.size w3 (.slice A3 n3 c3) d):=jq (by rw[<-eU];exact aT.out.setLow (λ_ _ _ h=>h) (by dsimp only;omega) _);have j0:w3.cell? ⟨X,0,none⟩=some (.string s):=by rw[<-eU];exact (xQ _ _ _ _ (by simp)).trans k0
 have j1:w3.cell? ⟨X,1,none⟩=some (.int .i64 ty):=by rw[<-eU];exact (xQ _ _ _ _ (by simp)).trans k1
 have j2:w3.cell? ⟨X,2,none⟩=some (.int .i64 life):=by rw[<-eU];exact (xQ _ _ _ _ (by simp)).trans k2
 have j3:w3.cell? ⟨X,3,none⟩=some (.slice A3 n3 c3):=by rw[<-eU];exact World.cell?_setCell_same _ _ _ k3
 have j4:w3.cell? ⟨X,4,none⟩=some (.slice A2 n2 c2):=by rw[<-eU];exact (xQ _ _ _ _ (by simp)).trans k4
 have jf4:w3.frozen? ⟨X,4,none⟩=false:=by rw[<-eU];exact (World.frozen?_setCell _ _ _ _).trans kf4
 have jobj:=(wQ w2 ⟨X,3,none⟩ (.slice A3 n3 c3) Y (by dsimp only;omega)).trans vW;rw[eU] at jobj;go_wp2_with fail;clear eU k0 k1 k2 k3 k4 kf3 kf4 vW;refine (Vp _ g Bx _ ((HG.out.keep dH az.out).more fz (by omega))).mono ?_;rintro e w4 ⟨v4,rfl,lv,ar⟩;have eC:=ar.size;replace j0:=(cl ar (by omega)).trans j0;replace j1:=(cl ar (by omega)).trans j1;replace j2:=(cl ar (by omega)).trans j2;replace j3:=(cl ar (by omega)).trans j3;replace j4:=(cl ar (by omega)).trans j4;replace jf4:=(ar.frozen (p:=⟨X,4,none⟩) (by dsimp only;omega)).trans jf4;replace jobj:=(ar.block Y (by omega)).trans jobj;have xI:=jq lv;have mB:=jq (gb.out.keep cH ar (by omega));have br:=jq (az.out.trans (ar.mono (by omega)));obtain⟨A4,c4,rfl⟩:=lv.formL;clear lv ar;obtain⟨n4,dO⟩:∃ n,g.length=n:=⟨_,rfl⟩;rw[dO] at xI |-;obtain⟨w5,aP⟩:∃ w5,w4.setCell ⟨X,4,none⟩ (.slice A4 n4 c4)=w5:=⟨_,rfl⟩;have jB:w5.heap.size=w4.heap.size:=by rw[<-aP];simp
 have cj:Hid (Below X w w5):=jq (by rw[<-aP];exact br.out.setCell (bQ _) _);have mA:Hid (bn dm 6 50 w3.heap.size w3.heap.size w5 (.slice A4 n4 c4) g):=jq (by rw[<-aP];exact xI.out.setLow (λ_ _ _ h=>h) (by dsimp only;omega) _);have mC:Hid (bn bF 3 128 w1.heap.size w1.heap.size w5 (.slice A3 n3 c3) d):=jq (by rw[<-aP];exact mB.out.setLow (λ_ _ _ h=>h) (by dsimp only;omega) _);have m0:w5.cell? ⟨X,0,none⟩=some (.string s):=by rw[<-aP];exact (xQ _ _ _ _ (by simp)).trans j0
 have m1:w5.cell? ⟨X,1,none⟩=some (.int .i64 ty):=by rw[<-aP];exact (xQ _ _ _ _ (by simp)).trans j1
 have m2:w5.cell? ⟨X,2,none⟩=some (.int .i64 life):=by rw[<-aP];exact (xQ _ _ _ _ (by simp)).trans j2
 have m3:w5.cell? ⟨X,3,none⟩=some (.slice A3 n3 c3):=by rw[<-aP];exact (xQ _ _ _ _ (by simp)).trans j3
 have m4:w5.cell? ⟨X,4,none⟩=some (.slice A4 n4 c4):=by rw[<-aP];exact World.cell?_setCell_same _ _ _ j4
 have mobj:=(wQ w4 ⟨X,4,none⟩ (.slice A4 n4 c4) Y (by dsimp only;omega)).trans jobj;rw[aP] at mobj;have y0:w5.cell? ⟨Y,0,none⟩=some (.string ⟨#[]⟩):=by simp[World.cell?,mobj]
 have z0:w5.frozen? ⟨Y,0,none⟩=false:=by simp[World.frozen?,mobj]
 have y1:w5.cell? ⟨Y,1,none⟩=some (.int .i64 0):=by simp[World.cell?,mobj]
 have z1:w5.frozen? ⟨Y,1,none⟩=false:=by simp[World.frozen?,mobj]
 have y2:w5.cell? ⟨Y,2,none⟩=some (.int .i64 0):=by simp[World.cell?,mobj]
 have z2:w5.frozen? ⟨Y,2,none⟩=false:=by simp[World.frozen?,mobj]
 have y3:w5.cell? ⟨Y,3,none⟩=some (.slice none 0 0):=by simp[World.cell?,mobj]
 have z3:w5.frozen? ⟨Y,3,none⟩=false:=by simp[World.frozen?,mobj]
 have y4:w5.cell? ⟨Y,4,none⟩=some (.slice none 0 0):=by simp[World.cell?,mobj]
 have z4:w5.frozen? ⟨Y,4,none⟩=false:=by simp[World.frozen?,mobj]
 go_wp2_with fail;obtain⟨W,hW⟩:∃ W,(((((w5.setCell ⟨Y,0,none⟩ (.string s)).setCell ⟨Y,1,none⟩ (.int .i64 ty)).setCell ⟨Y,2,none⟩ (.int .i64 life)).setCell ⟨Y,3,none⟩ (.slice A3 n3 c3)).setCell ⟨Y,4,none⟩ (.slice A4 n4 c4))=W:=⟨_,rfl⟩;have nC:Hid (bn bF 3 128 w1.heap.size w1.heap.size W (.slice A3 n3 c3) d):=jq (by rw[<-hW];exact (((((mC.out.setLow (λ_ _ _ h=>h) (by dsimp only;omega) _).setLow (λ_ _ _ h=>h) (by dsimp only;omega) _).setLow (λ_ _ _ h=>h) (by dsimp only;omega) _).setLow (λ_ _ _ h=>h) (by dsimp only;omega) _).setLow (λ_ _ _ h=>h) (by dsimp only;omega) _));have fP:Hid (bn dm 6 50 w3.heap.size w3.heap.size W (.slice A4 n4 c4) g):=jq (by rw[<-hW];exact (((((mA.out.setLow (λ_ _ _ h=>h) (by dsimp only;omega) _).setLow (λ_ _ _ h=>h) (by dsimp only;omega) _).setLow (λ_ _ _ h=>h) (by dsimp only;omega) _).setLow (λ_ _ _ h=>h) (by dsimp only;omega) _).setLow (λ_ _ _ h=>h) (by dsimp only;omega) _));have aU:Hid (Below X w W):=jq (by rw[<-hW];exact (((((cj.out.setCell (by dsimp only;omega) _).setCell (by dsimp only;omega) _).setCell (by dsimp only;omega) _).setCell (by dsimp only;omega) _).setCell (by dsimp only;omega) _));have wD:W.heap.size=w5.heap.size:=by rw[<-hW];simp
 have e0:W.cell? ⟨Y,0,none⟩=some (.string s):=by rw[<-hW];simp[go_sem,y0]
 have e1:W.cell? ⟨Y,1,none⟩=some (.int .i64 ty):=by rw[<-hW];simp[go_sem,y1]
 have e2:W.cell? ⟨Y,2,none⟩=some (.int .i64 life):=by rw[<-hW];simp[go_sem,y2]
 have e3:W.cell? ⟨Y,3,none⟩=some (.slice A3 n3 c3):=by rw[<-hW];simp[go_sem,y3]
 have e4:W.cell? ⟨Y,4,none⟩=some (.slice A4 n4 c4):=by rw[<-hW];simp[go_sem,y4]
 rw[hW];refine bodyPost_ret (v:=.agg #[.string s,.int .i64 ty,.int .i64 life,.slice A3 n3 c3,.slice A4 n4 c4]) ?_ rfl ⟨_,_,rfl,λM hM=>?_,by rw[kA.out];exact aU.out⟩
 ·simp[results,results71,go_sem,e0,e1,e2,e3,e4]
 ·have h1:=(nC.out.sans (M:=M) (λk hk=>by have:=hM k hk;have:=kA.out;omega) (λ_ _ h=>h)).slr du (by rw[gJ];omega) (by omega);have h2:=(fP.out.sans (M:=M) (λk hk=>by have:=hM k hk;have:=kA.out;omega) (λ_ _ h=>h)).slr fz (by rw[gJ];omega) (by omega);rw[gJ] at h1 h2;exact⟨h1,h2⟩
end
end Go.Proofs.YtfnopgdcaanaiaaGreatDoor
