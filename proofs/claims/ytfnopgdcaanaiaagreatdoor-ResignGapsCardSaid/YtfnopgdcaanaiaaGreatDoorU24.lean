/- Parts of the proof. No condition. -/
import Derived.Test.YtfnopgdcaanaiaaGreatDoorU19
import Derived.Test.YtfnopgdcaanaiaaGreatDoorU21
set_option linter.all false
set_option maxRecDepth 100000
set_option maxHeartbeats 8000000
namespace Go.Proofs.YtfnopgdcaanaiaaGreatDoor
open Go.Proofs.Tryz
section
open Go.RowKit Go.Shelf
theorem Tryz.infoCloneSpan:(prog.info? 110).map (λi=>(i.zero,i.size,i.bytes))=some (some (.agg #[.int .i64 0,.int .i64 0]),2,16):=by kernel_rfl
theorem RD(v:Value)(xs:List Np.Span)(hl:xs.length<=1000000)(w:World)(h:SlR cB 2 w w.heap.size v xs) :
 Calls prog 85 #[v] w λe w'=>∃ v',e = .returned v'/\bj cB 2 110 w.heap.size w.heap.size w' v' xs/\Below w.heap.size w w':=by
 have HD:=jq h;obtain⟨A,c,rfl,aW,bh⟩:=aj h;clear h;have heq:=run_eql_slice_nil (P:=prog) w 55 110 A xs.length c underlying55;have ba:Hid (Below w.heap.size w (w.alloc (.cells #[] 110))):=jq ((vQ _ _).alloc (bQ _) _);obtain⟨i0,hi,dI,bg,aO⟩:=info_parts Tryz.infoCloneSpan
 cases A with
 | none=>
  obtain⟨hn,rfl⟩:=G8 HD.out;rw[List.length_nil] at heq |-;simp only[Option.isNone_none] at heq;go_enter func85,ntmps85;go_wp2_with fail;go_ret;exact⟨_,rfl,bj.nil _,vQ _ _⟩
 | some ad=>
  go_enter func85,ntmps85;go_wp2_with (at_builtin;refine H0 (R:=cB) (sz:=2) _ rfl _ _ 55 rfl w.heap.size w.heap.size 110 i0 (.agg #[.int .i64 0,.int .i64 0]) 16 underlying55 hi dI bg aO rfl (by decide) _ [] rfl (bj.empty w (bQ _)) (some ad) c w.heap.size xs rfl (HD.out.keep bR ba.out) (λr y h=>by (rw[show r = [.int .i64 y.frm,.int .i64 y.til] from h];intro u hu;simp at hu;rcases hu with rfl | rfl <;> rfl)) (by simp[maxLen];omega) (by simp;omega) (by simp) (bQ _) (bQ _) bR dZ ?_;intro v3 w3 lE ah lu;have H3:=jq (And.intro lE (ba.out.trans ah));clear lE ah lu);go_ret;exact⟨_,rfl,H3.out.1,H3.out.2⟩
theorem Yn(s:ByteArray)(ty life:Int)(dv:Value)(d:List Np.Datum)(sv:Value)(g:List Np.Sig)(yG:d.length<=1000000)(yP:g.length<=1000000)(w:World)(hd:SlR bW 3 w w.heap.size dv d)(hg:SlR cV 6 w w.heap.size sv g) :
 Calls prog 84 #[.agg #[.string s,.int .i64 ty,.int .i64 life,dv,sv]] w λe w'=>∃ dv' sv',e = .returned (.agg #[.string s,.int .i64 ty,.int .i64 life,dv',sv'])/\AB w.heap.size w' dv' sv' d g/\Below w.heap.size w w':=by
 have HD:=jq hd;have HG:=jq hg;obtain⟨A1,c1,rfl,_,_⟩:=aj hd;obtain⟨A2,c2,rfl,_,_⟩:=aj hg;clear hd hg;obtain⟨n1,bG⟩:=abK d.length;obtain⟨n2,ct⟩:=abK g.length;rw[bG] at HD |-;rw[ct] at HG |-;clear bG ct;obtain⟨w1,ak⟩:=abK ((w.alloc (.cells #[.string s,.int .i64 ty,.int .i64 life,.slice A1 n1 c1,.slice A2 n2 c2] 42)).alloc (.cells #[.string ⟨#[]⟩,.int .i64 0,.int .i64 0,.slice none 0 0,.slice none 0 0] 42));have ar:Hid (Below w.heap.size w w1):=jq (by rw[<-ak];exact ((vQ _ _).alloc (bQ _) _).alloc (by simp) _);have bg:w1.heap.size=w.heap.size+2:=by rw[<-ak];simp
 obtain⟨X,hX⟩:=abK w.heap.size;obtain⟨Y,hY⟩:=abK (X+1);have k0:w1.cell? ⟨X,0,none⟩=some (.string s):=by rw[<-ak,<-hX];simp[go_sem]
 have k1:w1.cell? ⟨X,1,none⟩=some (.int .i64 ty):=by rw[<-ak,<-hX];simp[go_sem]
 have k2:w1.cell? ⟨X,2,none⟩=some (.int .i64 life):=by rw[<-ak,<-hX];simp[go_sem]
 have k3:w1.cell? ⟨X,3,none⟩=some (.slice A1 n1 c1):=by rw[<-ak,<-hX];simp[go_sem]
 have k4:w1.cell? ⟨X,4,none⟩=some (.slice A2 n2 c2):=by rw[<-ak,<-hX];simp[go_sem]
 have kf3:w1.frozen? ⟨X,3,none⟩=false:=by rw[<-ak,<-hX];simp[go_sem]
 have kf4:w1.frozen? ⟨X,4,none⟩=false:=by rw[<-ak,<-hX];simp[go_sem]
 have qg:w1.heap[Y]?=some (.cells #[.string ⟨#[]⟩,.int .i64 0,.int .i64 0,.slice none 0 0,.slice none 0 0] 42):=by
  rw[<-ak,<-hY,<-hX]
  have:=heap_alloc_new (w.alloc (.cells #[.string s,.int .i64 ty,.int .i64 life,.slice A1 n1 c1,.slice A2 n2 c2] 42)) (.cells #[.string ⟨#[]⟩,.int .i64 0,.int .i64 0,.slice none 0 0,.slice none 0 0] 42)
  simpa using this
 have gK:=jq hX;go_enter func84,ntmps84;go_wp2_with fail;rw[hX] at HD HG ar bg;clear ak hX;refine (J2 _ d yG _ ((HD.out.keep cu ar.out).more cS (by omega))).mono ?_;rintro e w2 ⟨v2,rfl,gh,ab⟩;have aO:=ab.size;replace k0:=abZ ab k0;replace k1:=abZ ab k1;replace k2:=abZ ab k2;replace k3:=abZ ab k3;replace k4:=abZ ab k4;replace kf3:=(ab.frozen (p:=⟨X,3,none⟩) (by dsimp only;omega)).trans kf3;replace kf4:=(ab.frozen (p:=⟨X,4,none⟩) (by dsimp only;omega)).trans kf4;replace qg:=(ab.block Y (by omega)).trans qg;have dh:=jq gh;have ai:=abJ ar ab;obtain⟨A3,c3,rfl⟩:=gh.formL;clear gh ab;obtain⟨n3,dL⟩:=abK d.length;rw[dL] at dh |-;obtain⟨w3,cI⟩:=abK (w2.setCell ⟨X,3,none⟩ (.slice A3 n3 c3));have fW:w3.heap.size=w2.heap.size:=by rw[<-cI];simp
 have aB:Hid (Below X w w3):=jq (by rw[<-cI];exact ai.out.setCell (bQ _) _);have ig:Hid (bj bW 3 128 w1.heap.size w1.heap.size w3 (.slice A3 n3 c3) d):=jq (by rw[<-cI];exact dh.out.setLow (λ_ _ _ h=>h) (by dsimp only;omega) _);have j0:w3.cell? ⟨X,0,none⟩=some (.string s):=by rw[<-cI];exact (xQ _ _ _ _ (by simp)).trans k0
 have j1:w3.cell? ⟨X,1,none⟩=some (.int .i64 ty):=by rw[<-cI];exact (xQ _ _ _ _ (by simp)).trans k1
 have j2:w3.cell? ⟨X,2,none⟩=some (.int .i64 life):=by rw[<-cI];exact (xQ _ _ _ _ (by simp)).trans k2
 have j3:w3.cell? ⟨X,3,none⟩=some (.slice A3 n3 c3):=by rw[<-cI];exact World.cell?_setCell_same _ _ _ k3
 have j4:w3.cell? ⟨X,4,none⟩=some (.slice A2 n2 c2):=by rw[<-cI];exact (xQ _ _ _ _ (by simp)).trans k4
 have jf4:w3.frozen? ⟨X,4,none⟩=false:=by rw[<-cI];exact (World.frozen?_setCell _ _ _ _).trans kf4
 have jobj:=(wQ w2 ⟨X,3,none⟩ (.slice A3 n3 c3) Y (by dsimp only;omega)).trans qg;rw[cI] at jobj;go_wp2_with fail;clear cI k0 k1 k2 k3 k4 kf3 kf4 qg;refine (J3 _ g yP _ ((HG.out.keep cT aB.out).more dU (by omega))).mono ?_;rintro e w4 ⟨v4,rfl,me,aq⟩;have gX:=aq.size;replace j0:=abZ aq j0;replace j1:=abZ aq j1;replace j2:=abZ aq j2;replace j3:=abZ aq j3;replace j4:=abZ aq j4;replace jf4:=(aq.frozen (p:=⟨X,4,none⟩) (by dsimp only;omega)).trans jf4;replace jobj:=(aq.block Y (by omega)).trans jobj;have sK:=jq me;have Es:=jq (ig.out.keep cu aq (by omega));have bJ:=abJ aB aq;obtain⟨A4,c4,rfl⟩:=me.formL;clear me aq;obtain⟨n4,ef⟩:=abK g.length;rw[ef] at sK |-;obtain⟨w5,aJ⟩:=abK (w4.setCell ⟨X,4,none⟩ (.slice A4 n4 c4));have kJ:w5.heap.size=w4.heap.size:=by rw[<-aJ];simp
 have cO:Hid (Below X w w5):=jq (by rw[<-aJ];exact bJ.out.setCell (bQ _) _);have lM:Hid (bj cV 6 50 w3.heap.size w3.heap.size w5 (.slice A4 n4 c4) g):=jq (by rw[<-aJ];exact sK.out.setLow (λ_ _ _ h=>h) (by dsimp only;omega) _);have qL:Hid (bj bW 3 128 w1.heap.size w1.heap.size w5 (.slice A3 n3 c3) d):=jq (by rw[<-aJ];exact Es.out.setLow (λ_ _ _ h=>h) (by dsimp only;omega) _);have m0:w5.cell? ⟨X,0,none⟩=some (.string s):=by rw[<-aJ];exact (xQ _ _ _ _ (by simp)).trans j0
 have m1:w5.cell? ⟨X,1,none⟩=some (.int .i64 ty):=by rw[<-aJ];exact (xQ _ _ _ _ (by simp)).trans j1
 have m2:w5.cell? ⟨X,2,none⟩=some (.int .i64 life):=by rw[<-aJ];exact (xQ _ _ _ _ (by simp)).trans j2
 have m3:w5.cell? ⟨X,3,none⟩=some (.slice A3 n3 c3):=by rw[<-aJ];exact (xQ _ _ _ _ (by simp)).trans j3
 have m4:w5.cell? ⟨X,4,none⟩=some (.slice A4 n4 c4):=by rw[<-aJ];exact World.cell?_setCell_same _ _ _ j4
 have mobj:=(wQ w4 ⟨X,4,none⟩ (.slice A4 n4 c4) Y (by dsimp only;omega)).trans jobj;rw[aJ] at mobj;have y0:w5.cell? ⟨Y,0,none⟩=some (.string ⟨#[]⟩):=by simp[World.cell?,mobj]
 have z0:w5.frozen? ⟨Y,0,none⟩=false:=by simp[World.frozen?,mobj]
 have y1:w5.cell? ⟨Y,1,none⟩=some (.int .i64 0):=by simp[World.cell?,mobj]
 have z1:w5.frozen? ⟨Y,1,none⟩=false:=by simp[World.frozen?,mobj]
 have y2:w5.cell? ⟨Y,2,none⟩=some (.int .i64 0):=by simp[World.cell?,mobj]
 have z2:w5.frozen? ⟨Y,2,none⟩=false:=by simp[World.frozen?,mobj]
 have y3:w5.cell? ⟨Y,3,none⟩=some (.slice none 0 0):=by simp[World.cell?,mobj]
 have z3:w5.frozen? ⟨Y,3,none⟩=false:=by simp[World.frozen?,mobj]
 have y4:w5.cell? ⟨Y,4,none⟩=some (.slice none 0 0):=by simp[World.cell?,mobj]
 have z4:w5.frozen? ⟨Y,4,none⟩=false:=by simp[World.frozen?,mobj]
 go_wp2_with fail;obtain⟨W,hW⟩:=abK (((((w5.setCell ⟨Y,0,none⟩ (.string s)).setCell ⟨Y,1,none⟩ (.int .i64 ty)).setCell ⟨Y,2,none⟩ (.int .i64 life)).setCell ⟨Y,3,none⟩ (.slice A3 n3 c3)).setCell ⟨Y,4,none⟩ (.slice A4 n4 c4));have mB:Hid (bj bW 3 128 w1.heap.size w1.heap.size W (.slice A3 n3 c3) d):=jq (by rw[<-hW];exact (((((qL.out.setLow (λ_ _ _ h=>h) (by dsimp only;omega) _).setLow (λ_ _ _ h=>h) (by dsimp only;omega) _).setLow (λ_ _ _ h=>h) (by dsimp only;omega) _).setLow (λ_ _ _ h=>h) (by dsimp only;omega) _).setLow (λ_ _ _ h=>h) (by dsimp only;omega) _));have gq:Hid (bj cV 6 50 w3.heap.size w3.heap.size W (.slice A4 n4 c4) g):=jq (by rw[<-hW];exact (((((lM.out.setLow (λ_ _ _ h=>h) (by dsimp only;omega) _).setLow (λ_ _ _ h=>h) (by dsimp only;omega) _).setLow (λ_ _ _ h=>h) (by dsimp only;omega) _).setLow (λ_ _ _ h=>h) (by dsimp only;omega) _).setLow (λ_ _ _ h=>h) (by dsimp only;omega) _));have aL:Hid (Below X w W):=jq (by rw[<-hW];exact (((((cO.out.setCell (by dsimp only;omega) _).setCell (by dsimp only;omega) _).setCell (by dsimp only;omega) _).setCell (by dsimp only;omega) _).setCell (by dsimp only;omega) _));have CG:W.heap.size=w5.heap.size:=by rw[<-hW];simp
 have e0:W.cell? ⟨Y,0,none⟩=some (.string s):=by rw[<-hW];simp[go_sem,y0]
 have e1:W.cell? ⟨Y,1,none⟩=some (.int .i64 ty):=by rw[<-hW];simp[go_sem,y1]
 have e2:W.cell? ⟨Y,2,none⟩=some (.int .i64 life):=by rw[<-hW];simp[go_sem,y2]
 have e3:W.cell? ⟨Y,3,none⟩=some (.slice A3 n3 c3):=by rw[<-hW];simp[go_sem,y3]
 have e4:W.cell? ⟨Y,4,none⟩=some (.slice A4 n4 c4):=by rw[<-hW];simp[go_sem,y4]
 rw[hW];refine bodyPost_ret (v:=.agg #[.string s,.int .i64 ty,.int .i64 life,.slice A3 n3 c3,.slice A4 n4 c4]) ?_ rfl ⟨_,_,rfl,λM hM=>?_,by rw[gK.out];exact aL.out⟩
 ·simp[results,results84,go_sem,e0,e1,e2,e3,e4]
 ·have h1:=(mB.out.sans (M:=M) (λk hk=>by have:=hM k hk;have:=gK.out;omega) (λ_ _ h=>h)).slr cS (by rw[gl];omega) (by omega);have h2:=(gq.out.sans (M:=M) (λk hk=>by have:=hM k hk;have:=gK.out;omega) (λ_ _ h=>h)).slr dU (by rw[gl];omega) (by omega);rw[gl] at h1 h2;exact⟨h1,h2⟩
end
end Go.Proofs.YtfnopgdcaanaiaaGreatDoor
