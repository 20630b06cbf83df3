/- Parts of the proof. No condition. -/
import Derived.Test.YtfnopgdcaanaiaaGreatDoorV19
import Derived.Test.YtfnopgdcaanaiaaGreatDoorV20
set_option linter.all false
set_option maxRecDepth 100000
set_option maxHeartbeats 8000000
namespace Go.Proofs.YtfnopgdcaanaiaaGreatDoor
open Go.Proofs.Tryz
section
open Go.RowKit Go.Shelf
theorem Tryz.infoCloneSpan:(prog.info? 110).map (λi=>(i.zero,i.size,i.bytes))=some (some (.agg #[.int .i64 0,.int .i64 0]),2,16):=by kernel_rfl
theorem U8(v:Value)(xs:List Np.Span)(hl:xs.length<=1000000)(w:World)(h:SlR bA 2 w w.heap.size v xs) :
 Calls prog 85 #[v] w λe w'=>∃ v',e = .returned v'/\bI bA 2 110 w.heap.size w.heap.size w' v' xs/\Below w.heap.size w w':=by
 have HD:=jq h;obtain⟨A,c,rfl,be,bC⟩:=aj h;clear h;have heq:=run_eql_slice_nil (P:=prog) w 55 110 A xs.length c underlying55;have bi:Hid (Below w.heap.size w (w.alloc (.cells #[] 110))):=jq ((vQ _ _).alloc (bQ _) _);obtain⟨i0,hi,di,ba,aN⟩:=info_parts Tryz.infoCloneSpan
 cases A with
 | none=>
  obtain⟨hn,rfl⟩:=J3 HD.out;rw[List.length_nil] at heq |-;simp only[Option.isNone_none] at heq;go_enter func85,ntmps85;go_wp2_with fail;go_ret;exact⟨_,rfl,bI.nil _,vQ _ _⟩
 | some ad=>
  go_enter func85,ntmps85;go_wp2_with (at_builtin;refine Kv (R:=bA) (sz:=2) _ rfl _ _ 55 rfl w.heap.size w.heap.size 110 i0 (.agg #[.int .i64 0,.int .i64 0]) 16 underlying55 hi di ba aN rfl (by decide) _ [] rfl (bI.empty w (bQ _)) (some ad) c w.heap.size xs rfl (HD.out.keep bE bi.out) (λr y h=>by (rw[show r = [.int .i64 y.frm,.int .i64 y.til] from h];intro u hu;simp at hu;rcases hu with rfl | rfl <;> rfl)) (by simp[maxLen];omega) (by simp;omega) (by simp) (bQ _) (bQ _) bE dP ?_;intro v3 w3 jl ak pF;have H3:=jq (And.intro jl (bi.out.trans ak));clear jl ak pF);go_ret;exact⟨_,rfl,H3.out.1,H3.out.2⟩
theorem aoJ(s:ByteArray)(ty life:Int)(dv:Value)(d:List Np.Datum)(sv:Value)(g:List Np.Sig)(AZ:d.length<=1000000)(Bg:g.length<=1000000)(w:World)(hd:SlR cA 3 w w.heap.size dv d)(hg:SlR de 6 w w.heap.size sv g) :
 Calls prog 84 #[.agg #[.string s,.int .i64 ty,.int .i64 life,dv,sv]] w λe w'=>∃ dv' sv',e = .returned (.agg #[.string s,.int .i64 ty,.int .i64 life,dv',sv'])/\Cz w.heap.size w' dv' sv' d g/\Below w.heap.size w w':=by
 have HD:=jq hd;have HG:=jq hg;obtain⟨A1,c1,rfl,_,_⟩:=aj hd;obtain⟨A2,c2,rfl,_,_⟩:=aj hg;clear hd hg;obtain⟨n1,bK⟩:=aJZ d.length;obtain⟨n2,bY⟩:=aJZ g.length;rw[bK] at HD |-;rw[bY] at HG |-;clear bK bY;obtain⟨w1,ai⟩:=aJZ ((w.alloc (.cells #[.string s,.int .i64 ty,.int .i64 life,.slice A1 n1 c1,.slice A2 n2 c2] 42)).alloc (.cells #[.string ⟨#[]⟩,.int .i64 0,.int .i64 0,.slice none 0 0,.slice none 0 0] 42));have am:Hid (Below w.heap.size w w1):=jq (by rw[<-ai];exact ((vQ _ _).alloc (bQ _) _).alloc (by simp) _);have ba:w1.heap.size=w.heap.size+2:=by rw[<-ai];simp
 obtain⟨X,hX⟩:=aJZ w.heap.size;obtain⟨Y,hY⟩:=aJZ (X+1);have k0:w1.cell? ⟨X,0,none⟩=some (.string s):=by rw[<-ai,<-hX];simp[go_sem]
 have k1:w1.cell? ⟨X,1,none⟩=some (.int .i64 ty):=by rw[<-ai,<-hX];simp[go_sem]
 have k2:w1.cell? ⟨X,2,none⟩=some (.int .i64 life):=by rw[<-ai,<-hX];simp[go_sem]
 have k3:w1.cell? ⟨X,3,none⟩=some (.slice A1 n1 c1):=by rw[<-ai,<-hX];simp[go_sem]
 have k4:w1.cell? ⟨X,4,none⟩=some (.slice A2 n2 c2):=by rw[<-ai,<-hX];simp[go_sem]
 have kf3:w1.frozen? ⟨X,3,none⟩=false:=by rw[<-ai,<-hX];simp[go_sem]
 have kf4:w1.frozen? ⟨X,4,none⟩=false:=by rw[<-ai,<-hX];simp[go_sem]
 have rU:w1.heap[Y]?=some (.cells #[.string ⟨#[]⟩,.int .i64 0,.int .i64 0,.slice none 0 0,.slice none 0 0] 42):=by
  rw[<-ai,<-hY,<-hX]
  have:=heap_alloc_new (w.alloc (.cells #[.string s,.int .i64 ty,.int .i64 life,.slice A1 n1 c1,.slice A2 n2 c2] 42)) (.cells #[.string ⟨#[]⟩,.int .i64 0,.int .i64 0,.slice none 0 0,.slice none 0 0] 42)
  simpa using this
 have iK:=jq hX;go_enter func84,ntmps84;go_wp2_with fail;rw[hX] at HD HG am ba;clear ai hX;refine (MB _ d AZ _ ((HD.out.keep bD am.out).more bP (by omega))).mono ?_;rintro e w2 ⟨v2,rfl,fw,ac⟩;have aN:=ac.size;replace k0:=aIZ ac k0;replace k1:=aIZ ac k1;replace k2:=aIZ ac k2;replace k3:=aIZ ac k3;replace k4:=aIZ ac k4;replace kf3:=(ac.frozen (p:=⟨X,3,none⟩) (by dsimp only;omega)).trans kf3;replace kf4:=(ac.frozen (p:=⟨X,4,none⟩) (by dsimp only;omega)).trans kf4;replace rU:=(ac.block Y (by omega)).trans rU;have db:=jq fw;have ah:=aIX am ac;obtain⟨A3,c3,rfl⟩:=fw.formL;clear fw ac;obtain⟨n3,dF⟩:=aJZ d.length;rw[dF] at db |-;obtain⟨w3,ct⟩:=aJZ (w2.setCell ⟨X,3,none⟩ (.slice A3 n3 c3));have gV:w3.heap.size=w2.heap.size:=by rw[<-ct];simp
 have aA:Hid (Below X w w3):=jq (by rw[<-ct];exact ah.out.setCell (bQ _) _);have iq:Hid (bI cA 3 128 w1.heap.size w1.heap.size w3 (.slice A3 n3 c3) d):=jq (by rw[<-ct];exact db.out.setLow (λ_ _ _ h=>h) (by dsimp only;omega) _);have j0:w3.cell? ⟨X,0,none⟩=some (.string s):=by rw[<-ct];exact (xQ _ _ _ _ (by simp)).trans k0
 have j1:w3.cell? ⟨X,1,none⟩=some (.int .i64 ty):=by rw[<-ct];exact (xQ _ _ _ _ (by simp)).trans k1
 have j2:w3.cell? ⟨X,2,none⟩=some (.int .i64 life):=by rw[<-ct];exact (xQ _ _ _ _ (by simp)).trans k2
 have j3:w3.cell? ⟨X,3,none⟩=some (.slice A3 n3 c3):=by rw[<-ct];exact World.cell?_setCell_same _ _ _ k3
 have j4:w3.cell? ⟨X,4,none⟩=some (.slice A2 n2 c2):=by rw[<-ct];exact (xQ _ _ _ _ (by simp)).trans k4
 have jf4:w3.frozen? ⟨X,4,none⟩=false:=by rw[<-ct];exact (World.frozen?_setCell _ _ _ _).trans kf4
 have jobj:=(wQ w2 ⟨X,3,none⟩ (.slice A3 n3 c3) Y (by dsimp only;omega)).trans rU;rw[ct] at jobj;go_wp2_with fail;clear ct k0 k1 k2 k3 k4 kf3 kf4 rU;refine (MC _ g Bg _ ((HG.out.keep bH aA.out).more cE (by omega))).mono ?_;rintro e w4 ⟨v4,rfl,ka,ar⟩;have jm:=ar.size;replace j0:=aIZ ar j0;replace j1:=aIZ ar j1;replace j2:=aIZ ar j2;replace j3:=aIZ ar j3;replace j4:=aIZ ar j4;replace jf4:=(ar.frozen (p:=⟨X,4,none⟩) (by dsimp only;omega)).trans jf4;replace jobj:=(ar.block Y (by omega)).trans jobj;have uN:=jq ka;have Gv:=jq (iq.out.keep bD ar (by omega));have b7:=aIX aA ar;obtain⟨A4,c4,rfl⟩:=ka.formL;clear ka ar;obtain⟨n4,dY⟩:=aJZ g.length;rw[dY] at uN |-;obtain⟨w5,aJ⟩:=aJZ (w4.setCell ⟨X,4,none⟩ (.slice A4 n4 c4));have kT:w5.heap.size=w4.heap.size:=by rw[<-aJ];simp
 have cG:Hid (Below X w w5):=jq (by rw[<-aJ];exact b7.out.setCell (bQ _) _);have lL:Hid (bI de 6 50 w3.heap.size w3.heap.size w5 (.slice A4 n4 c4) g):=jq (by rw[<-aJ];exact uN.out.setLow (λ_ _ _ h=>h) (by dsimp only;omega) _);have sU:Hid (bI cA 3 128 w1.heap.size w1.heap.size w5 (.slice A3 n3 c3) d):=jq (by rw[<-aJ];exact Gv.out.setLow (λ_ _ _ h=>h) (by dsimp only;omega) _);have m0:w5.cell? ⟨X,0,none⟩=some (.string s):=by rw[<-aJ];exact (xQ _ _ _ _ (by simp)).trans j0
 have m1:w5.cell? ⟨X,1,none⟩=some (.int .i64 ty):=by rw[<-aJ];exact (xQ _ _ _ _ (by simp)).trans j1
 have m2:w5.cell? ⟨X,2,none⟩=some (.int .i64 life):=by rw[<-aJ];exact (xQ _ _ _ _ (by simp)).trans j2
 have m3:w5.cell? ⟨X,3,none⟩=some (.slice A3 n3 c3):=by rw[<-aJ];exact (xQ _ _ _ _ (by simp)).trans j3
 have m4:w5.cell? ⟨X,4,none⟩=some (.slice A4 n4 c4):=by rw[<-aJ];exact World.cell?_setCell_same _ _ _ j4
 have mobj:=(wQ w4 ⟨X,4,none⟩ (.slice A4 n4 c4) Y (by dsimp only;omega)).trans jobj;rw[aJ] at mobj;have y0:w5.cell? ⟨Y,0,none⟩=some (.string ⟨#[]⟩):=by simp[World.cell?,mobj]
 have z0:w5.frozen? ⟨Y,0,none⟩=false:=by simp[World.frozen?,mobj]
 have y1:w5.cell? ⟨Y,1,none⟩=some (.int .i64 0):=by simp[World.cell?,mobj]
 have z1:w5.frozen? ⟨Y,1,none⟩=false:=by simp[World.frozen?,mobj]
 have y2:w5.cell? ⟨Y,2,none⟩=some (.int .i64 0):=by simp[World.cell?,mobj]
 have z2:w5.frozen? ⟨Y,2,none⟩=false:=by simp[World.frozen?,mobj]
 have y3:w5.cell? ⟨Y,3,none⟩=some (.slice none 0 0):=by simp[World.cell?,mobj]
 have z3:w5.frozen? ⟨Y,3,none⟩=false:=by simp[World.frozen?,mobj]
 have y4:w5.cell? ⟨Y,4,none⟩=some (.slice none 0 0):=by simp[World.cell?,mobj]
 have z4:w5.frozen? ⟨Y,4,none⟩=false:=by simp[World.frozen?,mobj]
 go_wp2_with fail;obtain⟨W,hW⟩:=aJZ (((((w5.setCell ⟨Y,0,none⟩ (.string s)).setCell ⟨Y,1,none⟩ (.int .i64 ty)).setCell ⟨Y,2,none⟩ (.int .i64 life)).setCell ⟨Y,3,none⟩ (.slice A3 n3 c3)).setCell ⟨Y,4,none⟩ (.slice A4 n4 c4));have od:Hid (bI cA 3 128 w1.heap.size w1.heap.size W (.slice A3 n3 c3) d):=jq (by rw[<-hW];exact (((((sU.out.setLow (λ_ _ _ h=>h) (by dsimp only;omega) _).setLow (λ_ _ _ h=>h) (by dsimp only;omega) _).setLow (λ_ _ _ h=>h) (by dsimp only;omega) _).setLow (λ_ _ _ h=>h) (by dsimp only;omega) _).setLow (λ_ _ _ h=>h) (by dsimp only;omega) _));have iH:Hid (bI de 6 50 w3.heap.size w3.heap.size W (.slice A4 n4 c4) g):=jq (by rw[<-hW];exact (((((lL.out.setLow (λ_ _ _ h=>h) (by dsimp only;omega) _).setLow (λ_ _ _ h=>h) (by dsimp only;omega) _).setLow (λ_ _ _ h=>h) (by dsimp only;omega) _).setLow (λ_ _ _ h=>h) (by dsimp only;omega) _).setLow (λ_ _ _ h=>h) (by dsimp only;omega) _));have aO:Hid (Below X w W):=jq (by rw[<-hW];exact (((((cG.out.setCell (by dsimp only;omega) _).setCell (by dsimp only;omega) _).setCell (by dsimp only;omega) _).setCell (by dsimp only;omega) _).setCell (by dsimp only;omega) _));have Eu:W.heap.size=w5.heap.size:=by rw[<-hW];simp
 have e0:W.cell? ⟨Y,0,none⟩=some (.string s):=by rw[<-hW];simp[go_sem,y0]
 have e1:W.cell? ⟨Y,1,none⟩=some (.int .i64 ty):=by rw[<-hW];simp[go_sem,y1]
 have e2:W.cell? ⟨Y,2,none⟩=some (.int .i64 life):=by rw[<-hW];simp[go_sem,y2]
 have e3:W.cell? ⟨Y,3,none⟩=some (.slice A3 n3 c3):=by rw[<-hW];simp[go_sem,y3]
 have e4:W.cell? ⟨Y,4,none⟩=some (.slice A4 n4 c4):=by rw[<-hW];simp[go_sem,y4]
 rw[hW];refine bodyPost_ret (v:=.agg #[.string s,.int .i64 ty,.int .i64 life,.slice A3 n3 c3,.slice A4 n4 c4]) ?_ rfl ⟨_,_,rfl,λM hM=>?_,by rw[iK.out];exact aO.out⟩
 ·simp[results,results84,go_sem,e0,e1,e2,e3,e4]
 ·have h1:=(od.out.sans (M:=M) (λk hk=>by have:=hM k hk;have:=iK.out;omega) (λ_ _ h=>h)).slr bP (by rw[gW];omega) (by omega);have h2:=(iH.out.sans (M:=M) (λk hk=>by have:=hM k hk;have:=iK.out;omega) (λ_ _ h=>h)).slr cE (by rw[gW];omega) (by omega);rw[gW] at h1 h2;exact⟨h1,h2⟩
end
end Go.Proofs.YtfnopgdcaanaiaaGreatDoor
