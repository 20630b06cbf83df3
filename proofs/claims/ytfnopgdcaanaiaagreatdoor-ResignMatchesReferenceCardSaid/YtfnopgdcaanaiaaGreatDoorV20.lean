/- Parts of the proof. No condition. -/
import Derived.Lib.LazyBuf
import Derived.Test.YtfnopgdcaanaiaaGreatDoorV08
import Derived.Test.YtfnopgdcaanaiaaGreatDoorV14
set_option linter.all false
set_option maxRecDepth 100000
set_option maxHeartbeats 8000000
namespace Go.Proofs.YtfnopgdcaanaiaaGreatDoor
open Go.Proofs.Tryz
section
open Go.RowKit Go.Shelf
theorem Z1{ps:List Np.Span}{s:Np.Span}(hp:Np.o7 ps)(hs:s.frm<s.til):Np.bN (Np.bN ps ++ [s])=Np.bN (ps ++ [s]):=by
 obtain⟨h1,h2⟩:=Np.sE hp;refine Np.PQ (λx hx=>?_) (λx hx=>?_) λt=>?_
 ·rcases List.mem_append.1 hx with hx | hx
  ·exact h1.full x hx
  ·rw[List.mem_singleton] at hx;subst hx;exact hs
 ·rcases List.mem_append.1 hx with hx | hx
  ·exact hp x hx
  ·rw[List.mem_singleton] at hx;subst hx;exact hs
 ·rw[Np.qJ,Np.qJ,h2]
theorem Q2{W:World}{b:Nat}{f u:Int}(hb:b<W.heap.size)(c0:W.cell? ⟨b,0,none⟩=some (.int .i64 f))(c1:W.cell? ⟨b,1,none⟩=some (.int .i64 u)):SlR bA 2 W W.heap.size (.slice (some ⟨b,0,none⟩) 1 1) [⟨f,u⟩]:=by
 refine⟨some ⟨b,0,none⟩,1,rfl,by simp,by simp,λi x hx=>?_⟩
 match i,hx with
 | 0,hx=>
  simp at hx;subst hx;refine⟨b,0,[.int .i64 f,.int .i64 u],rfl,hb,rfl,λj v hj=>?_,rfl⟩
  match j,hj with
  | 0,hj=>simp at hj;subst hj;exact c0
  | 1,hj=>simp at hj;subst hj;exact c1
  | j+2,hj=>simp at hj
 | i+1,hx=>simp at hx
end
section
open Go.RowKit
theorem J3{α:Type}{R:aPK α}{sz n c:Nat}{w:World}{B:Nat}{xs:List α}(h:SlR R sz w B (.slice none n c) xs):n=0/\xs = []:=by
 obtain⟨A',c',hA',_,_,aY⟩:=h;simp only[Value.slice.injEq] at hA';obtain⟨rfl,rfl,rfl⟩:=hA'
 cases xs with
 | nil=>exact⟨rfl,rfl⟩
 | cons x xs=>
  obtain⟨b,o,e,hA,_⟩:=aY 0 x rfl
  cases hA
theorem Tryz.infoCloneDatum:(prog.info? 128).map (λi=>(i.zero,i.size,i.bytes))=some (some (.agg #[.string ⟨#[]⟩,.int .i64 0,.int .i64 0]),3,32):=by kernel_rfl
theorem MB(v:Value)(xs:List Np.Datum)(hl:xs.length<=1000000)(w:World)(h:SlR cA 3 w w.heap.size v xs) :
 Calls prog 68 #[v] w λe w'=>∃ v',e = .returned v'/\bI cA 3 128 w.heap.size w.heap.size w' v' xs/\Below w.heap.size w w':=by
 have HD:=jq h;obtain⟨A,c,rfl,be,bC⟩:=aj h;clear h;have heq:=run_eql_slice_nil (P:=prog) w 24 128 A xs.length c underlying24;have bi:Hid (Below w.heap.size w (w.alloc (.cells #[] 128))):=jq ((vQ _ _).alloc (bQ _) _);obtain⟨i0,hi,di,ba,aN⟩:=info_parts Tryz.infoCloneDatum
 cases A with
 | none=>
  obtain⟨hn,rfl⟩:=J3 HD.out;rw[List.length_nil] at heq |-;simp only[Option.isNone_none] at heq;go_enter func68,ntmps68;go_wp2_with fail;go_ret;exact⟨_,rfl,bI.nil _,vQ _ _⟩
 | some ad=>
  go_enter func68,ntmps68;go_wp2_with (at_builtin;refine Kv (R:=cA) (sz:=3) _ rfl _ _ 24 rfl w.heap.size w.heap.size 128 i0 (.agg #[.string ⟨#[]⟩,.int .i64 0,.int .i64 0]) 32 underlying24 hi di ba aN rfl (by decide) _ [] rfl (bI.empty w (bQ _)) (some ad) c w.heap.size xs rfl (HD.out.keep bD bi.out) (λr y h=>by (obtain⟨s,_,_,rfl⟩:=h;intro u hu;simp at hu;try rcases hu with rfl | rfl | rfl | rfl | rfl | rfl <;> rfl)) (by simp[maxLen];omega) (by simp;omega) (by simp) (bQ _) (bQ _) bD bP ?_;intro v3 w3 jl ak pF;have H3:=jq (And.intro jl (bi.out.trans ak));clear jl ak pF);go_ret;exact⟨_,rfl,H3.out.1,H3.out.2⟩
theorem Tryz.infoCloneSig:(prog.info? 50).map (λi=>(i.zero,i.size,i.bytes))=some (some (.agg #[.string ⟨#[]⟩,.int .i64 0,.int .i64 0,.int .i64 0,.int .i64 0,.int .u64 0]),6,56):=by kernel_rfl
theorem MC(v:Value)(xs:List Np.Sig)(hl:xs.length<=1000000)(w:World)(h:SlR de 6 w w.heap.size v xs) :
 Calls prog 142 #[v] w λe w'=>∃ v',e = .returned v'/\bI de 6 50 w.heap.size w.heap.size w' v' xs/\Below w.heap.size w w':=by
 have HD:=jq h;obtain⟨A,c,rfl,be,bC⟩:=aj h;clear h;have heq:=run_eql_slice_nil (P:=prog) w 40 50 A xs.length c underlying40;have bi:Hid (Below w.heap.size w (w.alloc (.cells #[] 50))):=jq ((vQ _ _).alloc (bQ _) _);obtain⟨i0,hi,di,ba,aN⟩:=info_parts Tryz.infoCloneSig
 cases A with
 | none=>
  obtain⟨hn,rfl⟩:=J3 HD.out;rw[List.length_nil] at heq |-;simp only[Option.isNone_none] at heq;go_enter func142,ntmps142;go_wp2_with fail;go_ret;exact⟨_,rfl,bI.nil _,vQ _ _⟩
 | some ad=>
  go_enter func142,ntmps142;go_wp2_with (at_builtin;refine Kv (R:=de) (sz:=6) _ rfl _ _ 40 rfl w.heap.size w.heap.size 50 i0 (.agg #[.string ⟨#[]⟩,.int .i64 0,.int .i64 0,.int .i64 0,.int .i64 0,.int .u64 0]) 56 underlying40 hi di ba aN rfl (by decide) _ [] rfl (bI.empty w (bQ _)) (some ad) c w.heap.size xs rfl (HD.out.keep bH bi.out) (λr y h=>by (obtain⟨s,_,_,rfl⟩:=h;intro u hu;simp at hu;try rcases hu with rfl | rfl | rfl | rfl | rfl | rfl <;> rfl)) (by simp[maxLen];omega) (by simp;omega) (by simp) (bQ _) (bQ _) bH cE ?_;intro v3 w3 jl ak pF;have H3:=jq (And.intro jl (bi.out.trans ak));clear jl ak pF);go_ret;exact⟨_,rfl,H3.out.1,H3.out.2⟩
theorem bI.formL{α:Type}{R:aPK α}{sz:Nat}{e:TypeId}{base B:Nat}{w:World}{v:Value}{xs:List α}(h:bI R sz e base B w v xs):∃ A c,v = .slice A xs.length c:=by
 obtain⟨rows,_,h2,_⟩:=h;exact sF h2
theorem bI.setLow{α:Type}{R:aPK α}{sz:Nat}{e:TypeId}{base B:Nat}{w:World}{v:Value}{xs:List α}(h:bI R sz e base B w v xs)(hr:∀ w' r x,R w B r x->R w' B r x){p:Addr}(hp:p.block<base)(u:Value):bI R sz e base B (w.setCell p u) v xs:=by
 obtain⟨rows,h1,h2,h3⟩:=h;exact⟨rows,h1,ownsRow_setCell_below h2 hp u,λi r x hr' hx=>⟨(h3 i r x hr' hx).1,hr _ _ _ (h3 i r x hr' hx).2⟩⟩
theorem bI.sans{α:Type}{R:aPK α}{sz:Nat}{e:TypeId}{base B:Nat}{w:World}{v:Value}{xs:List α}(h:bI R sz e base B w v xs){M:Nat->Prop}(hM:∀ k,M k->k<base)(hr:∀ r x,R w B r x->R (bn w M) B r x):bI R sz e base B (bn w M) v xs:=by
 obtain⟨rows,h1,h2,h3⟩:=h;exact⟨rows,h1,cX h2 (λg hg=>kk (λhm=>by have:=(h2.lt g hg).1;have:=hM g hm;omega)),λi r x hr' hx=>⟨(h3 i r x hr' hx).1,hr _ _ (h3 i r x hr' hx).2⟩⟩
def Cz(n:Nat)(w:World)(dv sv:Value)(d:List Np.Datum)(g:List Np.Sig):Prop:=∀ M:Nat->Prop,(∀ k,M k->k<n)->SlR cA 3 (bn w M) w.heap.size dv d/\SlR de 6 (bn w M) w.heap.size sv g
theorem U7(s:ByteArray)(ty life:Int)(dv:Value)(d:List Np.Datum)(sv:Value)(g:List Np.Sig)(AZ:d.length<=1000000)(Bg:g.length<=1000000)(w:World)(hd:SlR cA 3 w w.heap.size dv d)(hg:SlR de 6 w w.heap.size sv g) :
 Calls prog 71 #[.agg #[.string s,.int .i64 ty,.int .i64 life,dv,sv]] w λe w'=>∃ dv' sv',e = .returned (.agg #[.string s,.int .i64 ty,.int .i64 life,dv',sv'])/\Cz w.heap.size w' dv' sv' d g/\Below w.heap.size w w':=by
 have HD:=jq hd;have HG:=jq hg;obtain⟨A1,c1,rfl,_,_⟩:=aj hd;obtain⟨A2,c2,rfl,_,_⟩:=aj hg;clear hd hg;obtain⟨n1,bK⟩:=aJZ d.length;obtain⟨n2,bY⟩:=aJZ g.length;rw[bK] at HD |-;rw[bY] at HG |-;clear bK bY;obtain⟨w1,ai⟩:=aJZ ((w.alloc (.cells #[.string s,.int .i64 ty,.int .i64 life,.slice A1 n1 c1,.slice A2 n2 c2] 42)).alloc (.cells #[.string ⟨#[]⟩,.int .i64 0,.int .i64 0,.slice none 0 0,.slice none 0 0] 42));have am:Hid (Below w.heap.size w w1):=jq (by rw[<-ai];exact ((vQ _ _).alloc (bQ _) _).alloc (by simp) _);have ba:w1.heap.size=w.heap.size+2:=by rw[<-ai];simp
 obtain⟨X,hX⟩:=aJZ w.heap.size;obtain⟨Y,hY⟩:=aJZ (X+1);have k0:w1.cell? ⟨X,0,none⟩=some (.string s):=by rw[<-ai,<-hX];simp[go_sem]
 have k1:w1.cell? ⟨X,1,none⟩=some (.int .i64 ty):=by rw[<-ai,<-hX];simp[go_sem]
 have k2:w1.cell? ⟨X,2,none⟩=some (.int .i64 life):=by rw[<-ai,<-hX];simp[go_sem]
 have k3:w1.cell? ⟨X,3,none⟩=some (.slice A1 n1 c1):=by rw[<-ai,<-hX];simp[go_sem]
 have k4:w1.cell? ⟨X,4,none⟩=some (.slice A2 n2 c2):=by rw[<-ai,<-hX];simp[go_sem]
 have kf3:w1.frozen? ⟨X,3,none⟩=false:=by rw[<-ai,<-hX];simp[go_sem]
 have kf4:w1.frozen? ⟨X,4,none⟩=false:=by rw[<-ai,<-hX];simp[go_sem]
 have rU:w1.heap[Y]?=some (.cells #[.string ⟨#[]⟩,.int .i64 0,.int .i64 0,.slice none 0 0,.slice none 0 0] 42):=by
  rw[<-ai,<-hY,<-hX]
  have:=heap_alloc_new (w.alloc (.cells #[.string s,.int .i64 ty,.int .i64 life,.slice A1 n1 c1,.slice A2 n2 c2] 42)) (.cells #[.string ⟨#[]⟩,.int .i64 0,.int .i64 0,.slice none 0 0,.slice none 0 0] 42)
  simpa using this
 have iK:=jq hX;go_enter func71,ntmps71;go_wp2_with fail;rw[hX] at HD HG am ba;clear ai hX;refine (MB _ d AZ _ ((HD.out.keep bD am.out).more bP (by omega))).mono ?_;rintro e w2 ⟨v2,rfl,fw,ac⟩;have aN:=ac.size;replace k0:=aIZ ac k0;replace k1:=aIZ ac k1;replace k2:=aIZ ac k2;replace k3:=aIZ ac k3;replace k4:=aIZ ac k4;replace kf3:=(ac.frozen (p:=⟨X,3,none⟩) (by dsimp only;omega)).trans kf3;replace kf4:=(ac.frozen (p:=⟨X,4,none⟩) (by dsimp only;omega)).trans kf4;replace rU:=(ac.block Y (by omega)).trans rU;have db:=jq fw;have ah:=aIX am ac;obtain⟨A3,c3,rfl⟩:=fw.formL;clear fw ac;obtain⟨n3,dF⟩:=aJZ d.length;rw[dF] at db |-;obtain⟨w3,ct⟩:=aJZ (w2.setCell ⟨X,3,none⟩ (.slice A3 n3 c3));have gV:w3.heap.size=w2.heap.size:=by rw[<-ct];simp
 have aA:Hid (Below X w w3):=jq (by rw[<-ct];exact ah.out.setCell (bQ _) _);have iq:Hid (bI cA 3 128 w1.heap.size w1.heap.size w3 (.slice A3 n3 c3) d):=jq (by rw[<-ct];exact db.out.setLow (λ_ _ _ h=>h) (by dsimp only;omega) _);have j0:w3.cell? ⟨X,0,none⟩=some (.string s):=by rw[<-ct];exact (xQ _ _ _ _ (by simp)).trans k0
 have j1:w3.cell? ⟨X,1,none⟩=some (.int .i64 ty):=by rw[<-ct];exact (xQ _ _ _ _ (by simp)).trans k1
 have j2:w3.cell? ⟨X,2,none⟩=some (.int .i64 life):=by rw[<-ct];exact (xQ _ _ _ _ (by simp)).trans k2
 have j3:w3.cell? ⟨X,3,none⟩=some (.slice A3 n3 c3):=by rw[<-ct];exact World.cell?_setCell_same _ _ _ k3
 have j4:w3.cell? ⟨X,4,none⟩=some (.slice A2 n2 c2):=by rw[<-ct];exact (xQ _ _ _ _ (by simp)).trans k4
 have jf4:w3.frozen? ⟨X,4,none⟩=false:=by rw[<-ct];exact (World.frozen?_setCell _ _ _ _).trans kf4
 have jobj:=(wQ w2 ⟨X,3,none⟩ (.slice A3 n3 c3) Y (by dsimp only;omega)).trans rU;rw[ct] at jobj;go_wp2_with fail;clear ct k0 k1 k2 k3 k4 kf3 kf4 rU;refine (MC _ g Bg _ ((HG.out.keep bH aA.out).more cE (by omega))).mono ?_;rintro e w4 ⟨v4,rfl,ka,ar⟩;have jm:=ar.size;replace j0:=aIZ ar j0;replace j1:=aIZ ar j1;replace j2:=aIZ ar j2;replace j3:=aIZ ar j3;replace j4:=aIZ ar j4;replace jf4:=(ar.frozen (p:=⟨X,4,none⟩) (by dsimp only;omega)).trans jf4;replace jobj:=(ar.block Y (by omega)).trans jobj;have uN:=jq ka;have Gv:=jq (iq.out.keep bD ar (by omega));have b7:=aIX aA ar;obtain⟨A4,c4,rfl⟩:=ka.formL;clear ka ar;obtain⟨n4,dY⟩:=aJZ g.length;rw[dY] at uN |-;obtain⟨w5,aJ⟩:=aJZ (w4.setCell ⟨X,4,none⟩ (.slice A4 n4 c4));have kT:w5.heap.size=w4.heap.size:=by rw[<-aJ];simp
 have cG:Hid (Below X w w5):=jq (by rw[<-aJ];exact b7.out.setCell (bQ _) _);have lL:Hid (bI de 6 50 w3.heap.size w3.heap.size w5 (.slice A4 n4 c4) g):=jq (by rw[<-aJ];exact uN.out.setLow (λ_ _ _ h=>h) (by dsimp only;omega) _);have sU:Hid (bI cA 3 128 w1.heap.size w1.heap.size w5 (.slice A3 n3 c3) d):=jq (by rw[<-aJ];exact Gv.out.setLow (λ_ _ _ h=>h) (by dsimp only;omega) _);have m0:w5.cell? ⟨X,0,none⟩=some (.string s):=by rw[<-aJ];exact (xQ _ _ _ _ (by simp)).trans j0
 have m1:w5.cell? ⟨X,1,none⟩=some (.int .i64 ty):=by rw[<-aJ];exact (xQ _ _ _ _ (by simp)).trans j1
 have m2:w5.cell? ⟨X,2,none⟩=some (.int .i64 life):=by rw[<-aJ];exact (xQ _ _ _ _ (by simp)).trans j2
 have m3:w5.cell? ⟨X,3,none⟩=some (.slice A3 n3 c3):=by rw[<-aJ];exact (xQ _ _ _ _ (by simp)).trans j3
 have m4:w5.cell? ⟨X,4,none⟩=some (.slice A4 n4 c4):=by rw[<-aJ];exact World.cell?_setCell_same _ _ _ j4
 have mobj:=(wQ w4 ⟨X,4,none⟩ (.slice A4 n4 c4) Y (by dsimp only;omega)).trans jobj;rw[aJ] at mobj;have y0:w5.cell? ⟨Y,0,none⟩=some (.string ⟨#[]⟩):=by simp[World.cell?,mobj]
 have z0:w5.frozen? ⟨Y,0,none⟩=false:=by simp[World.frozen?,mobj]
 have y1:w5.cell? ⟨Y,1,none⟩=some (.int .i64 0):=by simp[World.cell?,mobj]
 have z1:w5.frozen? ⟨Y,1,none⟩=false:=by simp[World.frozen?,mobj]
 have y2:w5.cell? ⟨Y,2,none⟩=some (.int .i64 0):=by simp[World.cell?,mobj]
 have z2:w5.frozen? ⟨Y,2,none⟩=false:=by simp[World.frozen?,mobj]
 have y3:w5.cell? ⟨Y,3,none⟩=some (.slice none 0 0):=by simp[World.cell?,mobj]
 have z3:w5.frozen? ⟨Y,3,none⟩=false:=by simp[World.frozen?,mobj]
 have y4:w5.cell? ⟨Y,4,none⟩=some (.slice none 0 0):=by simp[World.cell?,mobj]
 have z4:w5.frozen? ⟨Y,4,none⟩=false:=by simp[World.frozen?,mobj]
 go_wp2_with fail;obtain⟨W,hW⟩:=aJZ (((((w5.setCell ⟨Y,0,none⟩ (.string s)).setCell ⟨Y,1,none⟩ (.int .i64 ty)).setCell ⟨Y,2,none⟩ (.int .i64 life)).setCell ⟨Y,3,none⟩ (.slice A3 n3 c3)).setCell ⟨Y,4,none⟩ (.slice A4 n4 c4));have od:Hid (bI cA 3 128 w1.heap.size w1.heap.size W (.slice A3 n3 c3) d):=jq (by rw[<-hW];exact (((((sU.out.setLow (λ_ _ _ h=>h) (by dsimp only;omega) _).setLow (λ_ _ _ h=>h) (by dsimp only;omega) _).setLow (λ_ _ _ h=>h) (by dsimp only;omega) _).setLow (λ_ _ _ h=>h) (by dsimp only;omega) _).setLow (λ_ _ _ h=>h) (by dsimp only;omega) _));have iH:Hid (bI de 6 50 w3.heap.size w3.heap.size W (.slice A4 n4 c4) g):=jq (by rw[<-hW];exact (((((lL.out.setLow (λ_ _ _ h=>h) (by dsimp only;omega) _).setLow (λ_ _ _ h=>h) (by dsimp only;omega) _).setLow (λ_ _ _ h=>h) (by dsimp only;omega) _).setLow (λ_ _ _ h=>h) (by dsimp only;omega) _).setLow (λ_ _ _ h=>h) (by dsimp only;omega) _));have aO:Hid (Below X w W):=jq (by rw[<-hW];exact (((((cG.out.setCell (by dsimp only;omega) _).setCell (by dsimp only;omega) _).setCell (by dsimp only;omega) _).setCell (by dsimp only;omega) _).setCell (by dsimp only;omega) _));have Eu:W.heap.size=w5.heap.size:=by rw[<-hW];simp
 have e0:W.cell? ⟨Y,0,none⟩=some (.string s):=by rw[<-hW];simp[go_sem,y0]
 have e1:W.cell? ⟨Y,1,none⟩=some (.int .i64 ty):=by rw[<-hW];simp[go_sem,y1]
 have e2:W.cell? ⟨Y,2,none⟩=some (.int .i64 life):=by rw[<-hW];simp[go_sem,y2]
 have e3:W.cell? ⟨Y,3,none⟩=some (.slice A3 n3 c3):=by rw[<-hW];simp[go_sem,y3]
 have e4:W.cell? ⟨Y,4,none⟩=some (.slice A4 n4 c4):=by rw[<-hW];simp[go_sem,y4]
 rw[hW];refine bodyPost_ret (v:=.agg #[.string s,.int .i64 ty,.int .i64 life,.slice A3 n3 c3,.slice A4 n4 c4]) ?_ rfl ⟨_,_,rfl,λM hM=>?_,by rw[iK.out];exact aO.out⟩
 ·simp[results,results71,go_sem,e0,e1,e2,e3,e4]
 ·have h1:=(od.out.sans (M:=M) (λk hk=>by have:=hM k hk;have:=iK.out;omega) (λ_ _ h=>h)).slr bP (by rw[gW];omega) (by omega);have h2:=(iH.out.sans (M:=M) (λk hk=>by have:=hM k hk;have:=iK.out;omega) (λ_ _ h=>h)).slr cE (by rw[gW];omega) (by omega);rw[gW] at h1 h2;exact⟨h1,h2⟩
end
section
open Go.ChangeShapes Go.WideShapes Go.ChangeAt Go.RowKit Go.Deep
def ru{α:Type}(R:aPK α)(P:α->Prop)(W:World)(B:Nat)(e:List Value)(x:α):Prop:=R W B e x/\P x
theorem SlR.both{α:Type}{R:aPK α}{P:α->Prop}{sz:Nat}{W:World}{B:Nat}{v:Value}{xs:List α}(h:SlR (ru R P) sz W B v xs):SlR R sz W B v xs/\∀ x∈xs,P x:=by
 obtain⟨A,c,h1,h2,h3,h4⟩:=h;refine⟨⟨A,c,h1,h2,h3,λi x hx=>?_⟩,λx hx=>?_⟩
 ·obtain⟨b,o,e,k1,k2,k3,k4,k5,_⟩:=h4 i x hx;exact⟨b,o,e,k1,k2,k3,k4,k5⟩
 ·obtain⟨i,hi⟩:=List.mem_iff_getElem?.1 hx;obtain⟨b,o,e,_,_,_,_,_,k⟩:=h4 i x hi;exact k
def Mf(g:Np.Sig):Prop:=0<=g.sum/\g.sum<18446744073709551616
def Mh(z:Np.Zone):Prop:=∀ s∈z.sets,Np.xU s
def Mg(c:Np.Copy):Prop:=Mh c.zone
theorem ayX{x:Int}(h:(Lit.int .u64 x).wf=true):0<=x/\x<18446744073709551616:=by
 have:=bounds_u64 h
 omega
theorem UZ:prog.cellsOf 24=1:=by kernel_rfl
theorem U2:prog.cellsOf 40=1:=by kernel_rfl
theorem U3:prog.cellsOf 36=1:=by kernel_rfl
theorem U4:prog.cellsOf 48=1:=by kernel_rfl
theorem Mz:prog.cellsOf 26=4:=by kernel_rfl
theorem U5:prog.cellsOf 44=2:=by kernel_rfl
theorem U0:prog.cellsOf 22=1:=by kernel_rfl
theorem UY:prog.cellsOf 23=1:=by kernel_rfl
theorem U1:prog.cellsOf 27=1:=by kernel_rfl
def RSet(W:World)(B:Nat)(e:List Value)(x:Np.DSet):Prop:=∃ (s:ByteArray) (v:Value),s.data.toList=x.name/\s.size<=140737488355328/\SlR cA 3 W B v x.data/\e = [.string s,.int .i64 x.type,.int .i64 x.life,v]
theorem ahQ:jc prog 128 3 cA:=by
 intro H enc W base spare held fuel cs d ps h hw;obtain⟨hl,hf⟩:=ui underlying128 h hw;have hl':cs.length=3:=hl.trans (by kernel_rfl);clear hl
 match cs,hl' with
 | [c0,c1,c2],_=>
  obtain⟨n0,d0,p0,t0,w0⟩:=hf 0 _ rfl;have t0':DataW.trod enc prog W base spare held n0 9 (([c0,c1,c2].drop 0).take (prog.cellsOf 9))=some (d0,p0):=t0;rw[zY] at t0';have u0:DataW.trod enc prog W base spare held n0 9 [c0]=some (d0,p0):=t0';obtain⟨n1,d1,p1,t1,w1⟩:=hf 1 _ rfl;have t1':DataW.trod enc prog W base spare held n1 3 (([c0,c1,c2].drop 1).take (prog.cellsOf 3))=some (d1,p1):=t1;rw[je] at t1';have u1:DataW.trod enc prog W base spare held n1 3 [c1]=some (d1,p1):=t1';obtain⟨n2,d2,p2,t2,w2⟩:=hf 2 _ rfl;have t2':DataW.trod enc prog W base spare held n2 3 (([c0,c1,c2].drop 2).take (prog.cellsOf 3))=some (d2,p2):=t2;rw[je] at t2';have u2:DataW.trod enc prog W base spare held n2 3 [c2]=some (d2,p2):=t2';obtain⟨_,_,s0,_,iW,cK⟩:=Cd underlying9 H enc W base spare held n0 _ _ _ u0 w0;obtain rfl:c0 = .string s0:=by simpa using cK
  obtain⟨_,x1,bM,wf1⟩:=kW underlying3 H enc W base spare held n1 _ _ _ u1 w1;obtain rfl:c1 = .int .i64 x1:=by simpa using bM
  obtain⟨_,x2,l5,wf2⟩:=kW underlying3 H enc W base spare held n2 _ _ _ u2 w2;obtain rfl:c2 = .int .i64 x2:=by simpa using l5
  exact⟨rfl,⟨s0.data.toList,x1,x2⟩,s0,rfl,iW,rfl⟩
theorem agY:jc prog 24 1 (RSl cA 3):=yK underlying24 (by kernel_rfl) (by decide) (of_decide_eq_true (by kernel_rfl)) ahQ
theorem Qp:jc prog 26 4 RSet:=by
 intro H enc W base spare held fuel cs d ps h hw;obtain⟨hl,hf⟩:=ui underlying26 h hw;have hl':cs.length=4:=hl.trans (by kernel_rfl);clear hl
 match cs,hl' with
 | [c0,c1,c2,c3],_=>
  obtain⟨n0,d0,p0,t0,w0⟩:=hf 0 _ rfl;have t0':DataW.trod enc prog W base spare held n0 9 (([c0,c1,c2,c3].drop 0).take (prog.cellsOf 9))=some (d0,p0):=t0;rw[zY] at t0';have u0:DataW.trod enc prog W base spare held n0 9 [c0]=some (d0,p0):=t0';obtain⟨n1,d1,p1,t1,w1⟩:=hf 1 _ rfl;have t1':DataW.trod enc prog W base spare held n1 3 (([c0,c1,c2,c3].drop 1).take (prog.cellsOf 3))=some (d1,p1):=t1;rw[je] at t1';have u1:DataW.trod enc prog W base spare held n1 3 [c1]=some (d1,p1):=t1';obtain⟨n2,d2,p2,t2,w2⟩:=hf 2 _ rfl;have t2':DataW.trod enc prog W base spare held n2 3 (([c0,c1,c2,c3].drop 2).take (prog.cellsOf 3))=some (d2,p2):=t2;rw[je] at t2';have u2:DataW.trod enc prog W base spare held n2 3 [c2]=some (d2,p2):=t2';obtain⟨n3,d3,p3,t3,w3⟩:=hf 3 _ rfl;have t3':DataW.trod enc prog W base spare held n3 24 (([c0,c1,c2,c3].drop 3).take (prog.cellsOf 24))=some (d3,p3):=t3;rw[UZ] at t3';have u3:DataW.trod enc prog W base spare held n3 24 [c3]=some (d3,p3):=t3';obtain⟨_,_,s0,_,iW,cK⟩:=Cd underlying9 H enc W base spare held n0 _ _ _ u0 w0;obtain rfl:c0 = .string s0:=by simpa using cK
  obtain⟨_,x1,bM,wf1⟩:=kW underlying3 H enc W base spare held n1 _ _ _ u1 w1;obtain rfl:c1 = .int .i64 x1:=by simpa using bM
  obtain⟨_,x2,l5,wf2⟩:=kW underlying3 H enc W base spare held n2 _ _ _ u2 w2;obtain rfl:c2 = .int .i64 x2:=by simpa using l5
  obtain⟨_,x3,v3,pT,I9⟩:=agY H enc W base spare held n3 _ _ _ u3 w3;obtain rfl:c3=v3:=by simpa using pT
  exact⟨rfl,⟨s0.data.toList,x1,x2,x3⟩,s0,_,rfl,iW,I9,rfl⟩
theorem aiQ:jc prog 50 6 (ru de Mf):=by
 intro H enc W base spare held fuel cs d ps h hw;obtain⟨hl,hf⟩:=ui underlying50 h hw;have hl':cs.length=6:=hl.trans (by kernel_rfl);clear hl
 match cs,hl' with
 | [c0,c1,c2,c3,c4,c5],_=>
  obtain⟨n0,d0,p0,t0,w0⟩:=hf 0 _ rfl;have t0':DataW.trod enc prog W base spare held n0 9 (([c0,c1,c2,c3,c4,c5].drop 0).take (prog.cellsOf 9))=some (d0,p0):=t0;rw[zY] at t0';have u0:DataW.trod enc prog W base spare held n0 9 [c0]=some (d0,p0):=t0';obtain⟨n1,d1,p1,t1,w1⟩:=hf 1 _ rfl;have t1':DataW.trod enc prog W base spare held n1 3 (([c0,c1,c2,c3,c4,c5].drop 1).take (prog.cellsOf 3))=some (d1,p1):=t1;rw[je] at t1';have u1:DataW.trod enc prog W base spare held n1 3 [c1]=some (d1,p1):=t1';obtain⟨n2,d2,p2,t2,w2⟩:=hf 2 _ rfl;have t2':DataW.trod enc prog W base spare held n2 3 (([c0,c1,c2,c3,c4,c5].drop 2).take (prog.cellsOf 3))=some (d2,p2):=t2;rw[je] at t2';have u2:DataW.trod enc prog W base spare held n2 3 [c2]=some (d2,p2):=t2';obtain⟨n3,d3,p3,t3,w3⟩:=hf 3 _ rfl;have t3':DataW.trod enc prog W base spare held n3 3 (([c0,c1,c2,c3,c4,c5].drop 3).take (prog.cellsOf 3))=some (d3,p3):=t3;rw[je] at t3';have u3:DataW.trod enc prog W base spare held n3 3 [c3]=some (d3,p3):=t3';obtain⟨n4,d4,p4,t4,w4⟩:=hf 4 _ rfl;have t4':DataW.trod enc prog W base spare held n4 3 (([c0,c1,c2,c3,c4,c5].drop 4).take (prog.cellsOf 3))=some (d4,p4):=t4;rw[je] at t4';have u4:DataW.trod enc prog W base spare held n4 3 [c4]=some (d4,p4):=t4';obtain⟨n5,d5,p5,t5,w5⟩:=hf 5 _ rfl;have t5':DataW.trod enc prog W base spare held n5 48 (([c0,c1,c2,c3,c4,c5].drop 5).take (prog.cellsOf 48))=some (d5,p5):=t5;rw[U4] at t5';have u5:DataW.trod enc prog W base spare held n5 48 [c5]=some (d5,p5):=t5';obtain⟨_,_,s0,_,iW,cK⟩:=Cd underlying9 H enc W base spare held n0 _ _ _ u0 w0;obtain rfl:c0 = .string s0:=by simpa using cK
  obtain⟨_,x1,bM,wf1⟩:=kW underlying3 H enc W base spare held n1 _ _ _ u1 w1;obtain rfl:c1 = .int .i64 x1:=by simpa using bM
  obtain⟨_,x2,l5,wf2⟩:=kW underlying3 H enc W base spare held n2 _ _ _ u2 w2;obtain rfl:c2 = .int .i64 x2:=by simpa using l5
  obtain⟨_,x3,pT,wf3⟩:=kW underlying3 H enc W base spare held n3 _ _ _ u3 w3;obtain rfl:c3 = .int .i64 x3:=by simpa using pT
  obtain⟨_,x4,yD,wf4⟩:=kW underlying3 H enc W base spare held n4 _ _ _ u4 w4;obtain rfl:c4 = .int .i64 x4:=by simpa using yD
  obtain⟨_,x5,B2,wf5⟩:=kW underlying48 H enc W base spare held n5 _ _ _ u5 w5;obtain rfl:c5 = .int .u64 x5:=by simpa using B2
  exact⟨rfl,⟨s0.data.toList,x1,x2,x3,x4,x5⟩,⟨s0,rfl,iW,rfl⟩,ayX wf5⟩
theorem aiJ:jc prog 40 1 (RSl (ru de Mf) 6):=yK underlying40 (by kernel_rfl) (by decide) (of_decide_eq_true (by kernel_rfl)) aiQ
theorem Qq:jc prog 42 5 (ru cV Np.xU):=by
 intro H enc W base spare held fuel cs d ps h hw;obtain⟨hl,hf⟩:=ui underlying42 h hw;have hl':cs.length=5:=hl.trans (by kernel_rfl);clear hl
 match cs,hl' with
 | [c0,c1,c2,c3,c4],_=>
  obtain⟨n0,d0,p0,t0,w0⟩:=hf 0 _ rfl;have t0':DataW.trod enc prog W base spare held n0 26 (([c0,c1,c2,c3,c4].drop 0).take (prog.cellsOf 26))=some (d0,p0):=t0;rw[Mz] at t0';have u0:DataW.trod enc prog W base spare held n0 26 [c0,c1,c2,c3]=some (d0,p0):=t0';obtain⟨n1,d1,p1,t1,w1⟩:=hf 1 _ rfl;have t1':DataW.trod enc prog W base spare held n1 40 (([c0,c1,c2,c3,c4].drop 4).take (prog.cellsOf 40))=some (d1,p1):=t1;rw[U2] at t1';have u1:DataW.trod enc prog W base spare held n1 40 [c4]=some (d1,p1):=t1';obtain⟨_,x0,cK⟩:=Qp H enc W base spare held n0 _ _ _ u0 w0;obtain⟨_,x1,v1,bM,tW⟩:=aiJ H enc W base spare held n1 _ _ _ u1 w1;obtain rfl:c4=v1:=by simpa using bM
  obtain⟨sa,va,ha,hb,hc,hd⟩:=cK;exact⟨rfl,⟨x0,x1⟩,⟨sa,va,_,ha,hb,hc,tW.both.1,by rw[List.cons.injEq,List.cons.injEq,List.cons.injEq,List.cons.injEq] at hd;obtain⟨rfl,rfl,rfl,rfl,_⟩:=hd;rfl⟩,tW.both.2⟩
theorem aiZ:jc prog 36 1 (RSl (ru cV Np.xU) 5):=yK underlying36 (by kernel_rfl) (by decide) (of_decide_eq_true (by kernel_rfl)) Qq
theorem aiK:jc prog 44 2 (ru Um Mh):=by
 intro H enc W base spare held fuel cs d ps h hw;obtain⟨hl,hf⟩:=ui underlying44 h hw;have hl':cs.length=2:=hl.trans (by kernel_rfl);clear hl
 match cs,hl' with
 | [c0,c1],_=>
  obtain⟨n0,d0,p0,t0,w0⟩:=hf 0 _ rfl;have t0':DataW.trod enc prog W base spare held n0 9 (([c0,c1].drop 0).take (prog.cellsOf 9))=some (d0,p0):=t0;rw[zY] at t0';have u0:DataW.trod enc prog W base spare held n0 9 [c0]=some (d0,p0):=t0';obtain⟨n1,d1,p1,t1,w1⟩:=hf 1 _ rfl;have t1':DataW.trod enc prog W base spare held n1 36 (([c0,c1].drop 1).take (prog.cellsOf 36))=some (d1,p1):=t1;rw[U3] at t1';have u1:DataW.trod enc prog W base spare held n1 36 [c1]=some (d1,p1):=t1';obtain⟨_,_,s0,_,iW,cK⟩:=Cd underlying9 H enc W base spare held n0 _ _ _ u0 w0;obtain rfl:c0 = .string s0:=by simpa using cK
  obtain⟨_,x1,v1,bM,tW⟩:=aiZ H enc W base spare held n1 _ _ _ u1 w1;obtain rfl:c1=v1:=by simpa using bM
  exact⟨rfl,⟨s0.data.toList,x1⟩,⟨s0,_,rfl,iW,tW.both.1,rfl⟩,tW.both.2⟩
theorem agX:jc prog 46 5 (ru oq Mg):=by
 intro H enc W base spare held fuel cs d ps h hw;obtain⟨hl,hf⟩:=ui underlying46 h hw;have hl':cs.length=5:=hl.trans (by kernel_rfl);clear hl
 match cs,hl' with
 | [c0,c1,c2,c3,c4],_=>
  obtain⟨n0,d0,p0,t0,w0⟩:=hf 0 _ rfl;have t0':DataW.trod enc prog W base spare held n0 3 (([c0,c1,c2,c3,c4].drop 0).take (prog.cellsOf 3))=some (d0,p0):=t0;rw[je] at t0';have u0:DataW.trod enc prog W base spare held n0 3 [c0]=some (d0,p0):=t0';obtain⟨n1,d1,p1,t1,w1⟩:=hf 1 _ rfl;have t1':DataW.trod enc prog W base spare held n1 3 (([c0,c1,c2,c3,c4].drop 1).take (prog.cellsOf 3))=some (d1,p1):=t1;rw[je] at t1';have u1:DataW.trod enc prog W base spare held n1 3 [c1]=some (d1,p1):=t1';obtain⟨n2,d2,p2,t2,w2⟩:=hf 2 _ rfl;have t2':DataW.trod enc prog W base spare held n2 3 (([c0,c1,c2,c3,c4].drop 2).take (prog.cellsOf 3))=some (d2,p2):=t2;rw[je] at t2';have u2:DataW.trod enc prog W base spare held n2 3 [c2]=some (d2,p2):=t2';obtain⟨n3,d3,p3,t3,w3⟩:=hf 3 _ rfl;have t3':DataW.trod enc prog W base spare held n3 44 (([c0,c1,c2,c3,c4].drop 3).take (prog.cellsOf 44))=some (d3,p3):=t3;rw[U5] at t3';have u3:DataW.trod enc prog W base spare held n3 44 [c3,c4]=some (d3,p3):=t3';obtain⟨_,x0,cK,wf0⟩:=kW underlying3 H enc W base spare held n0 _ _ _ u0 w0;obtain rfl:c0 = .int .i64 x0:=by simpa using cK
  obtain⟨_,x1,bM,wf1⟩:=kW underlying3 H enc W base spare held n1 _ _ _ u1 w1;obtain rfl:c1 = .int .i64 x1:=by simpa using bM
  obtain⟨_,x2,l5,wf2⟩:=kW underlying3 H enc W base spare held n2 _ _ _ u2 w2;obtain rfl:c2 = .int .i64 x2:=by simpa using l5
  obtain⟨_,x3,pT⟩:=aiK H enc W base spare held n3 _ _ _ u3 w3;obtain⟨⟨sa,va,ha,hb,hc,hd⟩,hp⟩:=pT;exact⟨rfl,⟨x0,x1,x2,x3⟩,⟨sa,va,ha,hb,hc,by rw[List.cons.injEq,List.cons.injEq] at hd;obtain⟨rfl,rfl,_⟩:=hd;rfl⟩,hp⟩
theorem agK:jc prog 23 1 (RSl (ru oq Mg) 5):=yK underlying23 (by kernel_rfl) (by decide) (of_decide_eq_true (by kernel_rfl)) agX
theorem ahJ:jc prog 101 3 lN:=by
 intro H enc W base spare held fuel cs d ps h hw;obtain⟨hl,hf⟩:=ui underlying101 h hw;have hl':cs.length=3:=hl.trans (by kernel_rfl);clear hl
 match cs,hl' with
 | [c0,c1,c2],_=>
  obtain⟨n0,d0,p0,t0,w0⟩:=hf 0 _ rfl;have t0':DataW.trod enc prog W base spare held n0 9 (([c0,c1,c2].drop 0).take (prog.cellsOf 9))=some (d0,p0):=t0;rw[zY] at t0';have u0:DataW.trod enc prog W base spare held n0 9 [c0]=some (d0,p0):=t0';obtain⟨n1,d1,p1,t1,w1⟩:=hf 1 _ rfl;have t1':DataW.trod enc prog W base spare held n1 3 (([c0,c1,c2].drop 1).take (prog.cellsOf 3))=some (d1,p1):=t1;rw[je] at t1';have u1:DataW.trod enc prog W base spare held n1 3 [c1]=some (d1,p1):=t1';obtain⟨n2,d2,p2,t2,w2⟩:=hf 2 _ rfl;have t2':DataW.trod enc prog W base spare held n2 3 (([c0,c1,c2].drop 2).take (prog.cellsOf 3))=some (d2,p2):=t2;rw[je] at t2';have u2:DataW.trod enc prog W base spare held n2 3 [c2]=some (d2,p2):=t2';obtain⟨_,_,s0,_,iW,cK⟩:=Cd underlying9 H enc W base spare held n0 _ _ _ u0 w0;obtain rfl:c0 = .string s0:=by simpa using cK
  obtain⟨_,x1,bM,wf1⟩:=kW underlying3 H enc W base spare held n1 _ _ _ u1 w1;obtain rfl:c1 = .int .i64 x1:=by simpa using bM
  obtain⟨_,x2,l5,wf2⟩:=kW underlying3 H enc W base spare held n2 _ _ _ u2 w2;obtain rfl:c2 = .int .i64 x2:=by simpa using l5
  exact⟨rfl,⟨s0.data.toList,x1,x2⟩,s0,rfl,iW,rfl⟩
theorem ahK:jc prog 22 1 (RSl lN 3):=yK underlying22 (by kernel_rfl) (by decide) (of_decide_eq_true (by kernel_rfl)) ahJ
theorem ahX:jc prog 3 1 iM:=λH enc W base spare held fuel cs d ps h hw=>by
 obtain⟨h1,x,h2,_⟩:=kW underlying3 H enc W base spare held fuel cs d ps h hw;exact⟨h1,x,h2⟩
theorem ahY:jc prog 27 1 (RSl iM 1):=yK underlying27 (by kernel_rfl) (by decide) (of_decide_eq_true (by kernel_rfl)) ahX
theorem ahZ:jc prog 29 9 (ru fM Np.nc):=by
 intro H enc W base spare held fuel cs d ps h hw;obtain⟨hl,hf⟩:=ui underlying29 h hw;have hl':cs.length=9:=hl.trans (by kernel_rfl);clear hl
 match cs,hl' with
 | [c0,c1,c2,c3,c4,c5,c6,c7,c8],_=>
  obtain⟨n0,d0,p0,t0,w0⟩:=hf 0 _ rfl;have t0':DataW.trod enc prog W base spare held n0 22 (([c0,c1,c2,c3,c4,c5,c6,c7,c8].drop 0).take (prog.cellsOf 22))=some (d0,p0):=t0;rw[U0] at t0';have u0:DataW.trod enc prog W base spare held n0 22 [c0]=some (d0,p0):=t0';obtain⟨n1,d1,p1,t1,w1⟩:=hf 1 _ rfl;have t1':DataW.trod enc prog W base spare held n1 23 (([c0,c1,c2,c3,c4,c5,c6,c7,c8].drop 1).take (prog.cellsOf 23))=some (d1,p1):=t1;rw[UY] at t1';have u1:DataW.trod enc prog W base spare held n1 23 [c1]=some (d1,p1):=t1';obtain⟨n2,d2,p2,t2,w2⟩:=hf 2 _ rfl;have t2':DataW.trod enc prog W base spare held n2 26 (([c0,c1,c2,c3,c4,c5,c6,c7,c8].drop 2).take (prog.cellsOf 26))=some (d2,p2):=t2;rw[Mz] at t2';have u2:DataW.trod enc prog W base spare held n2 26 [c2,c3,c4,c5]=some (d2,p2):=t2';obtain⟨n3,d3,p3,t3,w3⟩:=hf 3 _ rfl;have t3':DataW.trod enc prog W base spare held n3 27 (([c0,c1,c2,c3,c4,c5,c6,c7,c8].drop 6).take (prog.cellsOf 27))=some (d3,p3):=t3;rw[U1] at t3';have u3:DataW.trod enc prog W base spare held n3 27 [c6]=some (d3,p3):=t3';obtain⟨n4,d4,p4,t4,w4⟩:=hf 4 _ rfl;have t4':DataW.trod enc prog W base spare held n4 3 (([c0,c1,c2,c3,c4,c5,c6,c7,c8].drop 7).take (prog.cellsOf 3))=some (d4,p4):=t4;rw[je] at t4';have u4:DataW.trod enc prog W base spare held n4 3 [c7]=some (d4,p4):=t4';obtain⟨n5,d5,p5,t5,w5⟩:=hf 5 _ rfl;have t5':DataW.trod enc prog W base spare held n5 3 (([c0,c1,c2,c3,c4,c5,c6,c7,c8].drop 8).take (prog.cellsOf 3))=some (d5,p5):=t5;rw[je] at t5';have u5:DataW.trod enc prog W base spare held n5 3 [c8]=some (d5,p5):=t5';obtain⟨_,x0,v0,cK,Yg⟩:=ahK H enc W base spare held n0 _ _ _ u0 w0;obtain rfl:c0=v0:=by simpa using cK
  obtain⟨_,x1,v1,bM,tW⟩:=agK H enc W base spare held n1 _ _ _ u1 w1;obtain rfl:c1=v1:=by simpa using bM
  obtain⟨_,x2,l5⟩:=Qp H enc W base spare held n2 _ _ _ u2 w2;obtain⟨_,x3,v3,pT,I9⟩:=ahY H enc W base spare held n3 _ _ _ u3 w3;obtain rfl:c6=v3:=by simpa using pT
  obtain⟨_,x4,yD,wf4⟩:=kW underlying3 H enc W base spare held n4 _ _ _ u4 w4;obtain rfl:c7 = .int .i64 x4:=by simpa using yD
  obtain⟨_,x5,B2,wf5⟩:=kW underlying3 H enc W base spare held n5 _ _ _ u5 w5;obtain rfl:c8 = .int .i64 x5:=by simpa using B2
  obtain⟨sa,va,ha,hb,hc,hd⟩:=l5;exact⟨rfl,⟨x0,x1,x2,x3,x4,x5⟩,⟨_,_,sa,va,_,by rw[List.cons.injEq,List.cons.injEq,List.cons.injEq,List.cons.injEq] at hd;obtain⟨rfl,rfl,rfl,rfl,_⟩:=hd;rfl,ha,hb,Yg,tW.both.1,hc,I9⟩,tW.both.2⟩
theorem Mp{α:Type}{P:Program}{t:TypeId}{sz:Nat}{R:aPK α}{fs:Array Field}(hs:P.underlying t=some (.struct fs))(hR:jc P t sz R){H:Type}{enc:TypeId×Value->H}{W:World}{r:Reach}{base b0:Nat}{spare:Nat->Bool}{held:Bool}{v:Value}{d:DataW H}{p:List MemPlace}
 (hv:Value.okWide P W r b0 t v) (h:DataW.Trod enc P W base spare held t v d p) (hw:∀ n∈d.weights P t,n<=reachBytes):∃ (cs:List Value) (x:α),v = .agg cs.toArray/\R W W.heap.size cs x:=by
 obtain⟨cs,rfl,_⟩:=okWide_struct hs hv;obtain⟨fuel,hf⟩:=h;obtain⟨_,x,hx⟩:=hR H enc W base spare held fuel _ d p hf hw;exact⟨_,x,by simp[Value.cells],hx⟩
theorem wK{H:Type}{P:Program}{ts:List TypeId}{ds:List (DataW H)}(h:(DataW.weightsEach P ts ds).all (·<=reachBytes)=true){j:Nat}{t:TypeId}{d:DataW H}(ht:ts[j]?=some t)(hd:ds[j]?=some d):∀ n∈d.weights P t,n<=reachBytes:=
 λn hn=>by simpa using List.all_eq_true.1 h n (DataW.weights_mem_each ht hd n hn)

end
end Go.Proofs.YtfnopgdcaanaiaaGreatDoor
