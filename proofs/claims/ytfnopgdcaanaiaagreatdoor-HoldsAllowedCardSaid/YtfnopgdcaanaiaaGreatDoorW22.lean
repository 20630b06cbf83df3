/- Parts of the proof. No condition. -/
import Derived.Test.YtfnopgdcaanaiaaGreatDoorW17
import Derived.Test.YtfnopgdcaanaiaaGreatDoorW19
set_option linter.all false
set_option maxRecDepth 100000
set_option maxHeartbeats 8000000
namespace Go.Proofs.YtfnopgdcaanaiaaGreatDoor
open Go.Proofs.Tryz
section
open Go.RowKit Go.Shelf
attribute [local go_sem] Oper.semAt_some
theorem TM(n:ByteArray)(hn:n.size<=140737488355328)(ty:Int)(w:World) :
 Calls prog 207 #[.agg #[.string n,.int .i64 ty]] w λe w'=>e = .returned (.bool (Np.aA n.data.toList&&(decide (1<=ty)&&decide (ty<=8))))/\Below w.heap.size w w':=by
 obtain⟨X,hX⟩:=aCQ w.heap.size;obtain⟨w1,ah⟩:=aCQ (w.alloc (.cells #[.string n,.int .i64 ty] 31));have hb:Below w.heap.size w w1:=by rw[<-ah];exact (vQ _ _).alloc (bQ _) _
 have bk:w1.heap.size=X+1:=by rw[<-ah,<-hX];simp
 have aq:=jq hb;have k0:w1.cell? ⟨X,0,none⟩=some (.string n):=by rw[<-ah,<-hX];simp[go_sem]
 have k1:w1.cell? ⟨X,1,none⟩=some (.int .i64 ty):=by rw[<-ah,<-hX];simp[go_sem]
 clear hb;go_enter func207,ntmps207;go_wp2_with fail
 try clear ah
 refine (nameValid_any n hn w1).mono ?_;rintro e w2 ⟨rfl,hb⟩;replace k1:=aBX hb k1;have ai:=aBY aq hb;clear hb k0;obtain⟨r,hr⟩:=aCQ (Np.aA n.data.toList);have HR:=jq hr;rw[hr];clear hr
 cases r with
 | false=>
  go_wp2_with fail;exact bodyPost_ret (v:=.bool false) (by simp[results,results207,go_sem]) rfl ⟨by rw[HR.out];rfl,ai.out⟩
 | true=>
  by_cases h1:1<=ty
  ·have lH:decide (1<=ty)=true:=uQ h1;go_wp2_with fail;exact bodyPost_ret (v:=.bool (decide (ty<=8))) (by simp[results,results207,go_sem]) rfl ⟨by rw[HR.out,lH];rfl,ai.out⟩
  ·have lH:decide (1<=ty)=false:=tQ h1;go_wp2_with fail;exact bodyPost_ret (v:=.bool false) (by simp[results,results207,go_sem]) rfl ⟨by rw[HR.out,lH];rfl,ai.out⟩
theorem TN(t:Int)(w:World):Calls prog 208 #[.int .i64 t] w λe w'=>e = .returned (.bool (decide (0<=t)&&decide (t<=20000000)))/\w'=w:=by
 by_cases h1:0<=t
 ·have lH:decide (0<=t)=true:=uQ h1;go_enter func208,ntmps208;go_wp2_with fail;exact bodyPost_ret (v:=.bool (decide (t<=20000000))) (by simp[results,results208,go_sem]) rfl ⟨by first | rfl | (rw[lH];rfl),rfl⟩
 ·have lH:decide (0<=t)=false:=tQ h1;go_enter func208,ntmps208;go_wp2_with fail;exact bodyPost_ret (v:=.bool false) (by simp[results,results208,go_sem]) rfl ⟨by first | rfl | (rw[lH];rfl),rfl⟩
theorem TP(w:World):Calls prog 76 #[.agg #[.slice none 0 0]] w (aFQ w.heap.size w (.bool true)):=by
 obtain⟨w1,ah⟩:=aCQ ((w.alloc (.cells #[.slice none 0 0] 76)).alloc (.map #[] 0));have HB:Hid (Below w.heap.size w w1):=jq (by rw[<-ah];exact ((vQ _ _).alloc (bQ _) _).alloc (by simp) _);have k0:w1.cell? ⟨w.heap.size,0,none⟩=some (.slice none 0 0):=by rw[<-ah];simp[go_sem]
 have lN:∀ (w:World),(Instr.makeMap 219 none).run prog w = .ok (.map (some w.heap.size)) (w.alloc (.map #[] 0)):=λw=>by
  simp[Instr.makeMap,Result.andThen]
 go_enter func76,ntmps76;go_wp2_with fail;clear lN;go_loopw [14] (λi wr=>i = .int .i64 0/\Hid (Below w.heap.size w wr)) (λi _=>0)
 case atStart=>exact⟨rfl,HB⟩
 case round=>
  obtain⟨rfl,HR⟩:=hrel;go_wp2_with fail;exact bodyPost_ret (v:=.bool true) (by simp[results,results76,go_sem]) rfl ⟨rfl,HR.out⟩
theorem atX(w:World):Calls prog 209 #[.agg #[.slice none 0 0],.int .i64 0] w λe w'=>e = .returned (.func (.func 281) #[] #[.pointer (some ⟨w.heap.size,0,none⟩),.pointer (some ⟨w.heap.size+1,0,none⟩)])/\w'=(w.alloc (.cells #[.slice none 0 0] 76)).alloc (.cells #[.int .i64 0] 3):=by
 go_enter func209,ntmps209;go_wp2_with fail;go_ret;exact⟨rfl,rfl⟩
theorem UJ:∀ args w,(callFunc 281 args).run prog w = .ok (.enter 281 args) w:=enters_of func281 (by kernel_rfl) rfl
theorem atY(X T:Nat)(Dr:Nat->Prop)(w:World)(hX:Dr X)(kX:w.cell? ⟨X,0,none⟩=some (.slice none 0 0)) :
 zK prog 281 (λy=>#[y,.pointer (some ⟨X,0,none⟩),.pointer (some ⟨T,0,none⟩)]) (λ_:Unit=>#[.int .i64 0]) [] Dr w:=by
 intro l J Jx S W hW hJ Dl hY hS hS' h0;have k1:=(hW.cell (p:=⟨X,0,none⟩) hX).trans kX;clear hW kX;refine callsIn_of_wp func281 rfl trivial ?_ rfl;simp only[ntmps281,List.size_toArray,List.length_cons,List.length_nil,Nat.reduceAdd,Nat.reduceSub,Array.replicate_succ,Array.replicate_zero,List.push_toArray,List.append_toArray,List.nil_append,List.cons_append];gi_wp2_with fail;gi_loopw [9] (λi wr=>i = .int .i64 0/\J [] S wr) (λ_ _=>0)
 case atStart=>exact⟨rfl,h0⟩
 case round=>
  obtain⟨rfl,hj⟩:=hrel;gi_wp2_with fail;go_end0;exact⟨⟨_,rfl⟩,.inl ⟨S,hj,λ_ e=>.inl e⟩⟩
theorem TL(n:ByteArray)(hn:n.size<=140737488355328)(ty:Int)(w:World):Calls prog 126 #[.agg #[.slice none 0 0],.agg #[.string n,.int .i64 ty],.int .i64 0] w λe w'=>e = .returned (.tuple #[.agg #[.string ⟨#[]⟩,.int .i64 0,.int .i64 0,.slice none 0 0,.slice none 0 0,.string ⟨#[]⟩,.int .i64 0],.bool false,.int .i64 (if (Np.aA n.data.toList&&(decide (1<=ty)&&decide (ty<=8)))=true then 0 else 1)])/\Below w.heap.size w w':=by
 obtain⟨r,hr⟩:=aCQ (Np.aA n.data.toList&&(decide (1<=ty)&&decide (ty<=8)));have rm:=jq hr;rw[hr];clear hr;obtain⟨X,hX⟩:=aCQ w.heap.size;obtain⟨w1,ah⟩:=aCQ (((((w.alloc (.cells #[.slice none 0 0] 76)).alloc (.cells #[.string n,.int .i64 ty] 31)).alloc (.cells #[.string ⟨#[]⟩,.int .i64 0,.int .i64 0,.slice none 0 0,.slice none 0 0,.string ⟨#[]⟩,.int .i64 0] 83)).alloc (.cells #[.bool false] 4)).alloc (.cells #[.int .i64 0] 37));have bk:w1.heap.size=X+5:=by rw[<-ah,<-hX];simp
 have hb:Below w.heap.size w w1:=by rw[<-ah];exact (((((vQ _ _).alloc (bQ _) _).alloc (by simp) _).alloc (by simp <;> omega) _).alloc (by simp <;> omega) _).alloc (by simp <;> omega) _
 have k0:w1.cell? ⟨X,0,none⟩=some (.slice none 0 0):=by rw[<-ah,<-hX];simp[go_sem]
 have k1:w1.cell? ⟨X+1,0,none⟩=some (.string n):=by rw[<-ah,<-hX];simp[go_sem]
 have k2:w1.cell? ⟨X+1,1,none⟩=some (.int .i64 ty):=by rw[<-ah,<-hX];simp[go_sem]
 have oE:w1.heap[X+1+1]?=some (.cells #[.string ⟨#[]⟩,.int .i64 0,.int .i64 0,.slice none 0 0,.slice none 0 0,.string ⟨#[]⟩,.int .i64 0] 83 (0,0)):=by
  rw[<-ah,<-hX];have h0:=heap_alloc_new ((w.alloc (.cells #[.slice none 0 0] 76)).alloc (.cells #[.string n,.int .i64 ty] 31)) (.cells #[.string ⟨#[]⟩,.int .i64 0,.int .i64 0,.slice none 0 0,.slice none 0 0,.string ⟨#[]⟩,.int .i64 0] 83);rw[Below.heap_alloc _ _ _ (by simp <;> omega),Below.heap_alloc _ _ _ (by simp <;> omega)];simpa using h0
 have oB:Boxed w1 (X+1+1+1) 4 (.bool false):=by
  rw[<-ah,<-hX];have h0:=(Boxed.new (((w.alloc (.cells #[.slice none 0 0] 76)).alloc (.cells #[.string n,.int .i64 ty] 31)).alloc (.cells #[.string ⟨#[]⟩,.int .i64 0,.int .i64 0,.slice none 0 0,.slice none 0 0,.string ⟨#[]⟩,.int .i64 0] 83)) 4 (.bool false)).alloc (.cells #[.int .i64 0] 37);simpa using h0
 have oR:Boxed w1 (X+1+1+1+1) 37 (.int .i64 0):=by
  rw[<-ah,<-hX];have h0:=Boxed.new ((((w.alloc (.cells #[.slice none 0 0] 76)).alloc (.cells #[.string n,.int .i64 ty] 31)).alloc (.cells #[.string ⟨#[]⟩,.int .i64 0,.int .i64 0,.slice none 0 0,.slice none 0 0,.string ⟨#[]⟩,.int .i64 0] 83)).alloc (.cells #[.bool false] 4)) 37 (.int .i64 0);simpa using h0
 have xp:=jq (And.intro oE (And.intro oB oR));rw[hX] at hb |-;have aq:=jq hb;clear hb oE oB oR;refine (callsIn_wide (n:=0)).1 ?_;refine callsIn_of_wp_marks func126 rfl trivial ?_ rfl;simp only[ntmps126,List.size_toArray,List.length_cons,List.length_nil,Nat.reduceAdd,Nat.reduceSub,Array.replicate_succ,Array.replicate_zero,List.push_toArray,List.append_toArray,List.nil_append,List.cons_append];gi_wp2_with fail;clear ah;refine⟨trivial,rfl,?_⟩;refine (callsIn_wide.2 (TP w1)).mono ?_;rintro e w2 ⟨rfl,hb⟩;replace k0:=aBX hb k0;replace k1:=aBX hb k1;replace k2:=aBX hb k2;have ai:=aBY aq hb;have eH:=jq hb;have aK:=hb.size;clear hb;gi_wp2_with fail;refine⟨trivial,rfl,?_⟩;refine (callsIn_wide.2 (TM n hn ty w2)).mono ?_;rw[rm.out];rintro e w3 ⟨rfl,hb⟩;replace k0:=aBX hb k0;have am:=aBY ai hb;have ia:=aBY eH hb;have eF:=hb.size;clear hb k1 k2
 cases r with
 | false=>
  have oE:=(ia.out.block (X+1+1) (by omega)).trans xp.out.1;have oB:Boxed w3 (X+1+1+1) 4 (.bool false):=aEX xp.out.2.1 ia.out;have oR:Boxed w3 (X+1+1+1+1) 37 (.int .i64 0):=aEX xp.out.2.2 ia.out;have y0:w3.cell? ⟨X+1+1,0,none⟩=some (.string ⟨#[]⟩):=by simp[World.cell?,oE]
  have z0:w3.frozen? ⟨X+1+1,0,none⟩=false:=by simp[World.frozen?,oE]
  have y1:w3.cell? ⟨X+1+1,1,none⟩=some (.int .i64 0):=by simp[World.cell?,oE]
  have z1:w3.frozen? ⟨X+1+1,1,none⟩=false:=by simp[World.frozen?,oE]
  have y2:w3.cell? ⟨X+1+1,2,none⟩=some (.int .i64 0):=by simp[World.cell?,oE]
  have z2:w3.frozen? ⟨X+1+1,2,none⟩=false:=by simp[World.frozen?,oE]
  have y3:w3.cell? ⟨X+1+1,3,none⟩=some (.slice none 0 0):=by simp[World.cell?,oE]
  have z3:w3.frozen? ⟨X+1+1,3,none⟩=false:=by simp[World.frozen?,oE]
  have y4:w3.cell? ⟨X+1+1,4,none⟩=some (.slice none 0 0):=by simp[World.cell?,oE]
  have z4:w3.frozen? ⟨X+1+1,4,none⟩=false:=by simp[World.frozen?,oE]
  have y5:w3.cell? ⟨X+1+1,5,none⟩=some (.string ⟨#[]⟩):=by simp[World.cell?,oE]
  have z5:w3.frozen? ⟨X+1+1,5,none⟩=false:=by simp[World.frozen?,oE]
  have y6:w3.cell? ⟨X+1+1,6,none⟩=some (.int .i64 0):=by simp[World.cell?,oE]
  have z6:w3.frozen? ⟨X+1+1,6,none⟩=false:=by simp[World.frozen?,oE]
  have bb:=oB.cell;have cb:=oB.frozen;have be:=oR.cell;have ce:=oR.frozen;clear oE oB oR k0;gi_wp2_with fail;refine⟨trivial,?_⟩;gi_wp2_with fail;obtain⟨WF,fX⟩:=aCQ ((((((((((w3.setCell ⟨X+1+1,0,none⟩ (.string ⟨#[]⟩)).setCell ⟨X+1+1,1,none⟩ (.int .i64 0)).setCell ⟨X+1+1,2,none⟩ (.int .i64 0)).setCell ⟨X+1+1,3,none⟩ (.slice none 0 0)).setCell ⟨X+1+1,4,none⟩ (.slice none 0 0)).setCell ⟨X+1+1,5,none⟩ (.string ⟨#[]⟩)).setCell ⟨X+1+1,6,none⟩ (.int .i64 0))).setCell ⟨X+1+1+1,0,none⟩ (.bool false)).setCell ⟨X+1+1+1+1,0,none⟩ (.int .i64 1));have dI:Hid (Below X w WF):=jq (by rw[<-fX];exact (((((((((am.out.setCell (by dsimp only;omega) _).setCell (by dsimp only;omega) _).setCell (by dsimp only;omega) _).setCell (by dsimp only;omega) _).setCell (by dsimp only;omega) _).setCell (by dsimp only;omega) _).setCell (by dsimp only;omega) _).setCell (by dsimp only;omega) _).setCell (by dsimp only;omega) _));have D6:WF.heap.size=w3.heap.size:=by rw[<-fX];simp[World.setCell]
  have e0:WF.cell? ⟨X+1+1,0,none⟩=some (.string ⟨#[]⟩):=by rw[<-fX];simp[go_sem,y0]
  have e1:WF.cell? ⟨X+1+1,1,none⟩=some (.int .i64 0):=by rw[<-fX];simp[go_sem,y1]
  have e2:WF.cell? ⟨X+1+1,2,none⟩=some (.int .i64 0):=by rw[<-fX];simp[go_sem,y2]
  have e3:WF.cell? ⟨X+1+1,3,none⟩=some (.slice none 0 0):=by rw[<-fX];simp[go_sem,y3]
  have e4:WF.cell? ⟨X+1+1,4,none⟩=some (.slice none 0 0):=by rw[<-fX];simp[go_sem,y4]
  have e5:WF.cell? ⟨X+1+1,5,none⟩=some (.string ⟨#[]⟩):=by rw[<-fX];simp[go_sem,y5]
  have e6:WF.cell? ⟨X+1+1,6,none⟩=some (.int .i64 0):=by rw[<-fX];simp[go_sem,y6]
  have eb:WF.cell? ⟨X+1+1+1,0,none⟩=some (.bool false):=by rw[<-fX];simp[go_sem,bb]
  have ee:WF.cell? ⟨X+1+1+1+1,0,none⟩=some (.int .i64 1):=by rw[<-fX];simp[go_sem,be]
  rw[fX];exact kh (v:=.tuple #[.agg #[.string ⟨#[]⟩,.int .i64 0,.int .i64 0,.slice none 0 0,.slice none 0 0,.string ⟨#[]⟩,.int .i64 0],.bool false,.int .i64 1]) (by simp[results,results126,go_sem,e0,e1,e2,e3,e4,e5,e6,eb,ee]) ⟨rfl,dI.out⟩
 | true=>
  gi_wp2_with fail;refine⟨trivial,rfl,?_⟩;refine (callsIn_wide.2 (TN 0 w3)).mono ?_;rintro e w4 ⟨rfl,h4⟩;rw[h4];clear h4 w4;gi_wp2_with fail;refine⟨trivial,rfl,?_⟩;refine (callsIn_wide.2 (atX w3)).mono ?_;rintro e w6 ⟨rfl,cj⟩;have aR:Below w3.heap.size w3 w6:=by rw[cj];exact ((vQ _ _).alloc (bQ _) _).alloc (by simp) _
  have kX:w6.cell? ⟨w3.heap.size,0,none⟩=some (.slice none 0 0):=by rw[cj];simp[go_sem]
  have iq:w6.heap.size=w3.heap.size+2:=by rw[cj];simp
  have uq:=jq (atY w3.heap.size (w3.heap.size+1) (λk=>k<w6.heap.size) w6 (by omega) kX);have du:=aBY am aR;have ri:=aBY ia aR;have Ln:=jq iq;clear cj kX aR k0;gi_wp2_with fail;refine EO (Dr:=λk=>k<w6.heap.size) (w0:=w6) (first:=#[]) (captured:=#[.pointer (some ⟨w3.heap.size,0,none⟩),.pointer (some ⟨w3.heap.size+1,0,none⟩)]) (gf:=281) rfl UJ (mk:=λy=>#[y,.pointer (some ⟨w3.heap.size,0,none⟩),.pointer (some ⟨w3.heap.size+1,0,none⟩)]) (λ_=>rfl)
   uq.out (eB.refl λk e=>e) (λ_=>rfl) (λ_ _ W=>Below w6.heap.size w6 W) (λ_ _ _ _=>False)
   (λs S W W' h ay=>uL h ay (bQ _) (bQ _)) (λc s S W W' h _=>h)
   (λk=>False) (λk h _=>h) (λk h=>h.elim) (vQ _ _) ?round ?done ?stop
  case stop=>
   rintro D c pre S W hD gw bj ga h hK;exact h.elim
  case round=>
   rintro l0 pre x S W br hI fq;exact absurd br (by simp)
  case done=>
   rintro D S W hD gw bj hI hK;have oE:=(hI.block (X+1+1) (by omega)).trans ((ri.out.block (X+1+1) (by omega)).trans xp.out.1);have oB:Boxed W (X+1+1+1) 4 (.bool false):=cD (aEX xp.out.2.1 ri.out) hI (by omega);have oR:Boxed W (X+1+1+1+1) 37 (.int .i64 0):=cD (aEX xp.out.2.2 ri.out) hI (by omega);have D8:=hI.size;have y0:W.cell? ⟨X+1+1,0,none⟩=some (.string ⟨#[]⟩):=by simp[World.cell?,oE]
   have z0:W.frozen? ⟨X+1+1,0,none⟩=false:=by simp[World.frozen?,oE]
   have y1:W.cell? ⟨X+1+1,1,none⟩=some (.int .i64 0):=by simp[World.cell?,oE]
   have z1:W.frozen? ⟨X+1+1,1,none⟩=false:=by simp[World.frozen?,oE]
   have y2:W.cell? ⟨X+1+1,2,none⟩=some (.int .i64 0):=by simp[World.cell?,oE]
   have z2:W.frozen? ⟨X+1+1,2,none⟩=false:=by simp[World.frozen?,oE]
   have y3:W.cell? ⟨X+1+1,3,none⟩=some (.slice none 0 0):=by simp[World.cell?,oE]
   have z3:W.frozen? ⟨X+1+1,3,none⟩=false:=by simp[World.frozen?,oE]
   have y4:W.cell? ⟨X+1+1,4,none⟩=some (.slice none 0 0):=by simp[World.cell?,oE]
   have z4:W.frozen? ⟨X+1+1,4,none⟩=false:=by simp[World.frozen?,oE]
   have y5:W.cell? ⟨X+1+1,5,none⟩=some (.string ⟨#[]⟩):=by simp[World.cell?,oE]
   have z5:W.frozen? ⟨X+1+1,5,none⟩=false:=by simp[World.frozen?,oE]
   have y6:W.cell? ⟨X+1+1,6,none⟩=some (.int .i64 0):=by simp[World.cell?,oE]
   have z6:W.frozen? ⟨X+1+1,6,none⟩=false:=by simp[World.frozen?,oE]
   have bb:=oB.cell;have cb:=oB.frozen;have be:=oR.cell;have ce:=oR.frozen;have aZ:=aBY du hI;have qk:=jq hK;clear oE oB oR hI hK;gi_wp2_with fail;obtain⟨WF,fX⟩:=aCQ ((((((((((W.setCell ⟨X+1+1,0,none⟩ (.string ⟨#[]⟩)).setCell ⟨X+1+1,1,none⟩ (.int .i64 0)).setCell ⟨X+1+1,2,none⟩ (.int .i64 0)).setCell ⟨X+1+1,3,none⟩ (.slice none 0 0)).setCell ⟨X+1+1,4,none⟩ (.slice none 0 0)).setCell ⟨X+1+1,5,none⟩ (.string ⟨#[]⟩)).setCell ⟨X+1+1,6,none⟩ (.int .i64 0))).setCell ⟨X+1+1+1,0,none⟩ (.bool false)).setCell ⟨X+1+1+1+1,0,none⟩ (.int .i64 0));have dI:Hid (Below X w WF):=jq (by rw[<-fX];exact (((((((((aZ.out.setCell (by dsimp only;omega) _).setCell (by dsimp only;omega) _).setCell (by dsimp only;omega) _).setCell (by dsimp only;omega) _).setCell (by dsimp only;omega) _).setCell (by dsimp only;omega) _).setCell (by dsimp only;omega) _).setCell (by dsimp only;omega) _).setCell (by dsimp only;omega) _));have D6:WF.heap.size=W.heap.size:=by rw[<-fX];simp[World.setCell]
   have e0:WF.cell? ⟨X+1+1,0,none⟩=some (.string ⟨#[]⟩):=by rw[<-fX];simp[go_sem,y0]
   have e1:WF.cell? ⟨X+1+1,1,none⟩=some (.int .i64 0):=by rw[<-fX];simp[go_sem,y1]
   have e2:WF.cell? ⟨X+1+1,2,none⟩=some (.int .i64 0):=by rw[<-fX];simp[go_sem,y2]
   have e3:WF.cell? ⟨X+1+1,3,none⟩=some (.slice none 0 0):=by rw[<-fX];simp[go_sem,y3]
   have e4:WF.cell? ⟨X+1+1,4,none⟩=some (.slice none 0 0):=by rw[<-fX];simp[go_sem,y4]
   have e5:WF.cell? ⟨X+1+1,5,none⟩=some (.string ⟨#[]⟩):=by rw[<-fX];simp[go_sem,y5]
   have e6:WF.cell? ⟨X+1+1,6,none⟩=some (.int .i64 0):=by rw[<-fX];simp[go_sem,y6]
   have eb:WF.cell? ⟨X+1+1+1,0,none⟩=some (.bool false):=by rw[<-fX];simp[go_sem,bb]
   have ee:WF.cell? ⟨X+1+1+1+1,0,none⟩=some (.int .i64 0):=by rw[<-fX];simp[go_sem,be]
   rw[fX];have Vt:WF.heap[D]?=some (.deferred (some [])):=by
    rw[<-fX];simp only[World.setCell,Array.getElem?_modify];simp[show X+1+1≠D by omega,show X+1+1+1≠D by omega,show X+1+1+1+1≠D by omega,qk.out]
   have q:∀ b o v,WF.cell? ⟨b,o,none⟩=some v->b≠D->(WF.putObj D (.deferred none)).cell? ⟨b,o,none⟩=some v:=λb o v h hb=>(iQ (zQ hb)).trans h;refine nu Vt (v:=.tuple #[.agg #[.string ⟨#[]⟩,.int .i64 0,.int .i64 0,.slice none 0 0,.slice none 0 0,.string ⟨#[]⟩,.int .i64 0],.bool false,.int .i64 0]) (by simp[results,results126,go_sem,q _ _ _ e0 (by omega),q _ _ _ e1 (by omega),q _ _ _ e2 (by omega),q _ _ _ e3 (by omega),q _ _ _ e4 (by omega),q _ _ _ e5 (by omega),q _ _ _ e6 (by omega),q _ _ _ eb (by omega),q _ _ _ ee (by omega)]) ⟨rfl,me dI.out (by omega) _⟩
theorem Np.Z8{n:List UInt8}{ty:Int} : (Np.aA n&&(decide (1<=ty)&&decide (ty<=8)))=true↔Np.QOk n ty:=by
 unfold Np.QOk;simp only[Bool.and_eq_true,Qa]
theorem Xc(n:ByteArray)(hn:n.size<=140737488355328)(ty:Int)(w:World):Calls prog 57 #[.agg #[.string n,.int .i64 ty]] w (aFQ w.heap.size w (.bool (Np.yes (Np.QOk n.data.toList ty)))):=by
 obtain⟨r,hr⟩:=aCQ (Np.aA n.data.toList&&(decide (1<=ty)&&decide (ty<=8)));have rm:=jq hr;have S2:Hid (Np.yes (Np.QOk n.data.toList ty)=r):=jq (by rw[Bool.eq_iff_iff,Np.fj,<-hr,Np.Z8]);rw[S2.out];clear hr;obtain⟨w1,ah⟩:=aCQ (w.alloc (.cells #[.string n,.int .i64 ty] 31));have hb:Below w.heap.size w w1:=by rw[<-ah];exact (vQ _ _).alloc (bQ _) _
 have k0:w1.cell? ⟨w.heap.size,0,none⟩=some (.string n):=by rw[<-ah];simp[go_sem]
 have k1:w1.cell? ⟨w.heap.size,1,none⟩=some (.int .i64 ty):=by rw[<-ah];simp[go_sem]
 have aq:=jq hb;clear hb;go_enter func57,ntmps57;go_wp2_with fail;clear ah;refine (TL n hn ty w1).mono ?_;rw[rm.out];rintro e w2 ⟨rfl,hb⟩;have ai:=jq (aq.out.trans (hb.mono aq.out.size));have aK:=ai.out.size;clear hb k0 k1
 cases r with
 | false=>
  go_wp2_with fail;exact bodyPost_ret (v:=.bool false) (by simp[results,results57,go_sem]) rfl ⟨rfl,ai.out.alloc (by omega) _⟩
 | true=>
  go_wp2_with fail;exact bodyPost_ret (v:=.bool true) (by simp[results,results57,go_sem]) rfl ⟨rfl,ai.out.alloc (by omega) _⟩
end
end Go.Proofs.YtfnopgdcaanaiaaGreatDoor
