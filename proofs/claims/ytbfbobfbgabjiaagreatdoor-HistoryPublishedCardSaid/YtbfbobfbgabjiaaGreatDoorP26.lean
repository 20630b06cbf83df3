/- Parts of the proof. No condition. -/
import Derived.Test.YtbfbobfbgabjiaaGreatDoorP22
set_option linter.all false
set_option maxRecDepth 100000
set_option maxHeartbeats 8000000
namespace Go.Proofs.YtbfbobfbgabjiaaGreatDoor
open Go.Proofs.Tryz
section
open Go.RowKit
theorem bl.formL{α:Type}{R:World->Nat->List Value->α->Prop}{sz:Nat}{e:TypeId}{base B:Nat}{w:World}{v:Value}{xs:List α}(h:bl R sz e base B w v xs):∃ A c,v = .slice A xs.length c:=by
 obtain⟨rows,_,h2,_⟩:=h;exact yZ h2
theorem bl.setLow{α:Type}{R:World->Nat->List Value->α->Prop}{sz:Nat}{e:TypeId}{base B:Nat}{w:World}{v:Value}{xs:List α}(h:bl R sz e base B w v xs)(hr:∀ w' r x,R w B r x->R w' B r x){p:Addr}(hp:p.block<base)(u:Value):bl R sz e base B (w.setCell p u) v xs:=by
 obtain⟨rows,h1,h2,h3⟩:=h;exact⟨rows,h1,ownsRow_setCell_below h2 hp u,λi r x hr' hx=>⟨(h3 i r x hr' hx).1,hr _ _ _ (h3 i r x hr' hx).2⟩⟩
theorem bl.sans{α:Type}{R:World->Nat->List Value->α->Prop}{sz:Nat}{e:TypeId}{base B:Nat}{w:World}{v:Value}{xs:List α}(h:bl R sz e base B w v xs){M:Nat->Prop}(hM:∀ k,M k->k<base)(hr:∀ r x,R w B r x->R (bj w M) B r x):bl R sz e base B (bj w M) v xs:=by
 obtain⟨rows,h1,h2,h3⟩:=h;exact⟨rows,h1,fU h2 (λg hg=>lF (λhm=>by have:=(h2.lt g hg).1; have:=hM g hm; omega)),λi r x hr' hx=>⟨(h3 i r x hr' hx).1,hr _ _ (h3 i r x hr' hx).2⟩⟩
def FT(n:Nat)(w:World)(dv sv:Value)(d:List Np.Datum)(g:List Np.Sig):Prop:=∀ M:Nat->Prop,(∀ k,M k->k<n)->SlR cr 3 (bj w M) w.heap.size dv d/\SlR fj 6 (bj w M) w.heap.size sv g
theorem Ng(s:ByteArray)(ty life:Int)(dv:Value)(d:List Np.Datum)(sv:Value)(g:List Np.Sig)(Jk:d.length<=1000000)(Jt:g.length<=1000000)(w:World)(hd:SlR cr 3 w w.heap.size dv d)(hg:SlR fj 6 w w.heap.size sv g) :
 Calls prog 47 #[.agg #[.string s,.int .i64 ty,.int .i64 life,dv,sv]] w λe w'=>∃ dv' sv',e = .returned (.agg #[.string s,.int .i64 ty,.int .i64 life,dv',sv'])/\FT w.heap.size w' dv' sv' d g/\Below w.heap.size w w':=by
 have HD:=jq hd;have HG:=jq hg;obtain⟨A1,c1,rfl,_,_⟩:=ah hd;obtain⟨A2,c2,rfl,_,_⟩:=ah hg;clear hd hg;obtain⟨n1,aO⟩:∃ n,d.length=n:=⟨_,rfl⟩;obtain⟨n2,be⟩:∃ n,g.length=n:=⟨_,rfl⟩;rw[aO] at HD |-;rw[be] at HG |-;clear aO be;obtain⟨w1,ak⟩:∃ w1,(w.alloc (.cells #[.string s,.int .i64 ty,.int .i64 life,.slice A1 n1 c1,.slice A2 n2 c2] 68)).alloc (.cells #[.string ⟨#[]⟩,.int .i64 0,.int .i64 0,.slice none 0 0,.slice none 0 0] 68)=w1:=⟨_,rfl⟩;have ay:Hid (Below w.heap.size w w1):=jq (by rw[<-ak]; exact ((vQ _ _).alloc (bQ _) _).alloc (by simp) _);have bL:w1.heap.size=w.heap.size+2:=by rw[<-ak]; simp
 obtain⟨X,hX⟩:∃ X,w.heap.size=X:=⟨_,rfl⟩;obtain⟨Y,hY⟩:∃ Y,X+1=Y:=⟨_,rfl⟩;have k0:w1.cell? ⟨X,0,none⟩=some (.string s):=by rw[<-ak,<-hX]; simp[go_sem]
 have k1:w1.cell? ⟨X,1,none⟩=some (.int .i64 ty):=by rw[<-ak,<-hX]; simp[go_sem]
 have k2:w1.cell? ⟨X,2,none⟩=some (.int .i64 life):=by rw[<-ak,<-hX]; simp[go_sem]
 have k3:w1.cell? ⟨X,3,none⟩=some (.slice A1 n1 c1):=by rw[<-ak,<-hX]; simp[go_sem]
 have k4:w1.cell? ⟨X,4,none⟩=some (.slice A2 n2 c2):=by rw[<-ak,<-hX]; simp[go_sem]
 have kf3:w1.frozen? ⟨X,3,none⟩=false:=by rw[<-ak,<-hX]; simp[go_sem]
 have kf4:w1.frozen? ⟨X,4,none⟩=false:=by rw[<-ak,<-hX]; simp[go_sem]
 have aZ:w1.heap[Y]?=some (.cells #[.string ⟨#[]⟩,.int .i64 0,.int .i64 0,.slice none 0 0,.slice none 0 0] 68):=by
  rw[<-ak,<-hY,<-hX]
  have:=heap_alloc_new (w.alloc (.cells #[.string s,.int .i64 ty,.int .i64 life,.slice A1 n1 c1,.slice A2 n2 c2] 68)) (.cells #[.string ⟨#[]⟩,.int .i64 0,.int .i64 0,.slice none 0 0,.slice none 0 0] 68)
  simpa using this
 have lP:=jq hX;go_enter func47,ntmps47;go_wp2_with fail;rw[hX] at HD HG ay bL;clear ak hX;refine (Nf _ d Jk _ ((HD.out.keep cB ay.out).more cZ (by omega))).mono ?_;rintro e w2 ⟨v2,rfl,lZ,ab⟩;have aM:=ab.size;replace k0:=(cl ab (by omega)).trans k0;replace k1:=(cl ab (by omega)).trans k1;replace k2:=(cl ab (by omega)).trans k2;replace k3:=(cl ab (by omega)).trans k3;replace k4:=(cl ab (by omega)).trans k4;replace kf3:=(ab.frozen (p:=⟨X,3,none⟩) (by dsimp only; omega)).trans kf3;replace kf4:=(ab.frozen (p:=⟨X,4,none⟩) (by dsimp only; omega)).trans kf4;replace aZ:=(ab.block Y (by omega)).trans aZ;have bk:=jq lZ;have al:=jq (ay.out.trans (ab.mono (by omega)));obtain⟨A3,c3,rfl⟩:=lZ.formL;clear lZ ab;obtain⟨n3,cP⟩:∃ n,d.length=n:=⟨_,rfl⟩;rw[cP] at bk |-;obtain⟨w3,eY⟩:∃ w3,w2.setCell ⟨X,3,none⟩ (.slice A3 n3 c3)=w3:=⟨_,rfl⟩;have er:w3.heap.size=w2.heap.size:=by rw[<-eY]; simp
 have ar:Hid (Below X w w3):=jq (by rw[<-eY]; exact al.out.setCell (bQ _) _);have lL:Hid (bl cr 3 96 w1.heap.size w1.heap.size w3 (.slice A3 n3 c3) d):=jq (by rw[<-eY]; exact bk.out.setLow (λ_ _ _ h=>h) (by dsimp only; omega) _);have j0:w3.cell? ⟨X,0,none⟩=some (.string s):=by rw[<-eY]; exact (xQ _ _ _ _ (by simp)).trans k0
 have j1:w3.cell? ⟨X,1,none⟩=some (.int .i64 ty):=by rw[<-eY]; exact (xQ _ _ _ _ (by simp)).trans k1
 have j2:w3.cell? ⟨X,2,none⟩=some (.int .i64 life):=by rw[<-eY]; exact (xQ _ _ _ _ (by simp)).trans k2
 have j3:w3.cell? ⟨X,3,none⟩=some (.slice A3 n3 c3):=by rw[<-eY]; exact World.cell?_setCell_same _ _ _ k3
 have j4:w3.cell? ⟨X,4,none⟩=some (.slice A2 n2 c2):=by rw[<-eY]; exact (xQ _ _ _ _ (by simp)).trans k4
 have jf4:w3.frozen? ⟨X,4,none⟩=false:=by rw[<-eY]; exact (World.frozen?_setCell _ _ _ _).trans kf4
 have jobj:=(wQ w2 ⟨X,3,none⟩ (.slice A3 n3 c3) Y (by dsimp only; omega)).trans aZ;rw[eY] at jobj;go_wp2_with fail;clear eY k0 k1 k2 k3 k4 kf3 kf4 aZ;refine (VL _ g Jt _ ((HG.out.keep el ar.out).more fx (by omega))).mono ?_;rintro e w4 ⟨v4,rfl,l5,an⟩;have gC:=an.size;replace j0:=(cl an (by omega)).trans j0;replace j1:=(cl an (by omega)).trans j1;replace j2:=(cl an (by omega)).trans j2;replace j3:=(cl an (by omega)).trans j3;replace j4:=(cl an (by omega)).trans j4;replace jf4:=(an.frozen (p:=⟨X,4,none⟩) (by dsimp only; omega)).trans jf4;replace jobj:=(an.block Y (by omega)).trans jobj;have xR:=jq l5;have Ua:=jq (lL.out.keep cB an (by omega));have bq:=jq (ar.out.trans (an.mono (by omega)));obtain⟨A4,c4,rfl⟩:=l5.formL;clear l5 an;obtain⟨n4,cW⟩:∃ n,g.length=n:=⟨_,rfl⟩;rw[cW] at xR |-;obtain⟨w5,aP⟩:∃ w5,w4.setCell ⟨X,4,none⟩ (.slice A4 n4 c4)=w5:=⟨_,rfl⟩;have me:w5.heap.size=w4.heap.size:=by rw[<-aP]; simp
 have cS:Hid (Below X w w5):=jq (by rw[<-aP]; exact bq.out.setCell (bQ _) _);have ru:Hid (bl fj 6 133 w3.heap.size w3.heap.size w5 (.slice A4 n4 c4) g):=jq (by rw[<-aP]; exact xR.out.setLow (λ_ _ _ h=>h) (by dsimp only; omega) _);have xT:Hid (bl cr 3 96 w1.heap.size w1.heap.size w5 (.slice A3 n3 c3) d):=jq (by rw[<-aP]; exact Ua.out.setLow (λ_ _ _ h=>h) (by dsimp only; omega) _);have m0:w5.cell? ⟨X,0,none⟩=some (.string s):=by rw[<-aP]; exact (xQ _ _ _ _ (by simp)).trans j0
 have m1:w5.cell? ⟨X,1,none⟩=some (.int .i64 ty):=by rw[<-aP]; exact (xQ _ _ _ _ (by simp)).trans j1
 have m2:w5.cell? ⟨X,2,none⟩=some (.int .i64 life):=by rw[<-aP]; exact (xQ _ _ _ _ (by simp)).trans j2
 have m3:w5.cell? ⟨X,3,none⟩=some (.slice A3 n3 c3):=by rw[<-aP]; exact (xQ _ _ _ _ (by simp)).trans j3
 have m4:w5.cell? ⟨X,4,none⟩=some (.slice A4 n4 c4):=by rw[<-aP]; exact World.cell?_setCell_same _ _ _ j4
 have mobj:=(wQ w4 ⟨X,4,none⟩ (.slice A4 n4 c4) Y (by dsimp only; omega)).trans jobj;rw[aP] at mobj;have y0:w5.cell? ⟨Y,0,none⟩=some (.string ⟨#[]⟩):=by simp[World.cell?,mobj]
 have z0:w5.frozen? ⟨Y,0,none⟩=false:=by simp[World.frozen?,mobj]
 have y1:w5.cell? ⟨Y,1,none⟩=some (.int .i64 0):=by simp[World.cell?,mobj]
 have z1:w5.frozen? ⟨Y,1,none⟩=false:=by simp[World.frozen?,mobj]
 have y2:w5.cell? ⟨Y,2,none⟩=some (.int .i64 0):=by simp[World.cell?,mobj]
 have z2:w5.frozen? ⟨Y,2,none⟩=false:=by simp[World.frozen?,mobj]
 have y3:w5.cell? ⟨Y,3,none⟩=some (.slice none 0 0):=by simp[World.cell?,mobj]
 have z3:w5.frozen? ⟨Y,3,none⟩=false:=by simp[World.frozen?,mobj]
 have y4:w5.cell? ⟨Y,4,none⟩=some (.slice none 0 0):=by simp[World.cell?,mobj]
 have z4:w5.frozen? ⟨Y,4,none⟩=false:=by simp[World.frozen?,mobj]
 go_wp2_with fail;obtain⟨W,hW⟩:∃ W,(((((w5.setCell ⟨Y,0,none⟩ (.string s)).setCell ⟨Y,1,none⟩ (.int .i64 ty)).setCell ⟨Y,2,none⟩ (.int .i64 life)).setCell ⟨Y,3,none⟩ (.slice A3 n3 c3)).setCell ⟨Y,4,none⟩ (.slice A4 n4 c4))=W:=⟨_,rfl⟩;have qk:Hid (bl cr 3 96 w1.heap.size w1.heap.size W (.slice A3 n3 c3) d):=jq (by rw[<-hW]; exact (((((xT.out.setLow (λ_ _ _ h=>h) (by dsimp only; omega) _).setLow (λ_ _ _ h=>h) (by dsimp only; omega) _).setLow (λ_ _ _ h=>h) (by dsimp only; omega) _).setLow (λ_ _ _ h=>h) (by dsimp only; omega) _).setLow (λ_ _ _ h=>h) (by dsimp only; omega) _));have gm:Hid (bl fj 6 133 w3.heap.size w3.heap.size W (.slice A4 n4 c4) g):=jq (by rw[<-hW]; exact (((((ru.out.setLow (λ_ _ _ h=>h) (by dsimp only; omega) _).setLow (λ_ _ _ h=>h) (by dsimp only; omega) _).setLow (λ_ _ _ h=>h) (by dsimp only; omega) _).setLow (λ_ _ _ h=>h) (by dsimp only; omega) _).setLow (λ_ _ _ h=>h) (by dsimp only; omega) _));have aB:Hid (Below X w W):=jq (by rw[<-hW]; exact (((((cS.out.setCell (by dsimp only; omega) _).setCell (by dsimp only; omega) _).setCell (by dsimp only; omega) _).setCell (by dsimp only; omega) _).setCell (by dsimp only; omega) _));have pT:W.heap.size=w5.heap.size:=by rw[<-hW]; simp
 have e0:W.cell? ⟨Y,0,none⟩=some (.string s):=by rw[<-hW]; simp[go_sem,y0]
 have e1:W.cell? ⟨Y,1,none⟩=some (.int .i64 ty):=by rw[<-hW]; simp[go_sem,y1]
 have e2:W.cell? ⟨Y,2,none⟩=some (.int .i64 life):=by rw[<-hW]; simp[go_sem,y2]
 have e3:W.cell? ⟨Y,3,none⟩=some (.slice A3 n3 c3):=by rw[<-hW]; simp[go_sem,y3]
 have e4:W.cell? ⟨Y,4,none⟩=some (.slice A4 n4 c4):=by rw[<-hW]; simp[go_sem,y4]
 rw[hW];refine bodyPost_ret (v:=.agg #[.string s,.int .i64 ty,.int .i64 life,.slice A3 n3 c3,.slice A4 n4 c4]) ?_ rfl ⟨_,_,rfl,λM hM=>?_,by rw[lP.out]; exact aB.out⟩
 ·simp[results,results47,go_sem,e0,e1,e2,e3,e4]
 ·have h1:=(qk.out.sans (M:=M) (λk hk=>by have:=hM k hk; have:=lP.out; omega) (λ_ _ h=>h)).slr cZ (by rw[gU]; omega) (by omega);have h2:=(gm.out.sans (M:=M) (λk hk=>by have:=hM k hk; have:=lP.out; omega) (λ_ _ h=>h)).slr fx (by rw[gU]; omega) (by omega);rw[gU] at h1 h2;exact⟨h1,h2⟩
end
end Go.Proofs.YtbfbobfbgabjiaaGreatDoor
