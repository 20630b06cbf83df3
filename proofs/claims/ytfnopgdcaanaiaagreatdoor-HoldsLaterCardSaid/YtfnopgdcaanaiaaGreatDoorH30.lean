/- Parts of the proof. No condition. -/
import Derived.Test.YtfnopgdcaanaiaaGreatDoorH24
import Derived.Test.YtfnopgdcaanaiaaGreatDoorH25
import Derived.Test.YtfnopgdcaanaiaaGreatDoorH27
set_option linter.all false
set_option maxRecDepth 100000
set_option maxHeartbeats 8000000
namespace Go.Proofs.YtfnopgdcaanaiaaGreatDoor
open Go.Proofs.Tryz
section
open Go.RowKit
theorem KN(e:List Value)(h:Np.Hist)(hf:Np.vW h)(w:World)(hR:iH w w.heap.size)(hh:ed w w.heap.size e h) :
 Calls prog 56 #[.agg e.toArray] w λe w'=>e = .returned (.bool (Np.yes (Np.VHist h)))/\Below w.heap.size w w':=by
 obtain⟨hv,cv,s,dv,cN,rfl,h1,h2,h3,h4,h5,h6⟩:=hh;obtain⟨hosts,copies,⟨name,ty,life,data⟩,hints,drift,stop⟩:=h;dsimp only at h1 h3 h4 h5 h6;subst h1;exact KP _ hosts _ copies s h2 ty life _ data _ hints drift stop hf.1 hf.2 _ hR h3 h4 h5 h6
end
section
open Go.RowKit Go.Shelf
attribute [local go_sem] Oper.semAt_some
attribute [local go_sem] CV.cells
theorem aK.formN{base n:Nat}{w:World}{v:Value}{ps:List Np.Span}(h:aK base w v ps)(hn:ps.length=n):∃ A c,v = .slice A n c:=by subst hn;exact h.form
end
section
open Go.RowKit Go.Shelf
attribute [local go_sem] Oper.semAt_some
theorem Rm(n:ByteArray)(hn:n.size<=140737488355328)(ty:Int)(w:World) :
 Calls prog 207 #[.agg #[.string n,.int .i64 ty]] w λe w'=>e = .returned (.bool (Np.aC n.data.toList&&(decide (1<=ty)&&decide (ty<=8))))/\Below w.heap.size w w':=by
 obtain⟨X,hX⟩:∃ X,w.heap.size=X:=⟨_,rfl⟩;obtain⟨w1,ah⟩:∃ w1,w.alloc (.cells #[.string n,.int .i64 ty] 31)=w1:=⟨_,rfl⟩;have hb:Below w.heap.size w w1:=by rw[<-ah];exact (vQ _ _).alloc (bQ _) _
 have bj:w1.heap.size=X+1:=by rw[<-ah,<-hX];simp
 have aq:=jq hb;have k0:w1.cell? ⟨X,0,none⟩=some (.string n):=by rw[<-ah,<-hX];simp[go_sem]
 have k1:w1.cell? ⟨X,1,none⟩=some (.int .i64 ty):=by rw[<-ah,<-hX];simp[go_sem]
 clear hb;go_enter func207,ntmps207;go_wp2_with fail
 try clear ah
 refine (nameValid_any n hn w1).mono ?_;rintro e w2 ⟨rfl,hb⟩;replace k1:=(cl hb (by omega)).trans k1;have aj:=jq (aq.out.trans (hb.mono (by omega)));clear hb k0;obtain⟨r,hr⟩:∃ r,Np.aC n.data.toList=r:=⟨_,rfl⟩;have HR:=jq hr;rw[hr];clear hr
 cases r with
 | false=>
  go_wp2_with fail;exact bodyPost_ret (v:=.bool false) (by simp[results,results207,go_sem]) rfl ⟨by rw[HR.out];rfl,aj.out⟩
 | true=>
  by_cases h1:1<=ty
  ·have jt:decide (1<=ty)=true:=uQ h1;go_wp2_with fail;exact bodyPost_ret (v:=.bool (decide (ty<=8))) (by simp[results,results207,go_sem]) rfl ⟨by rw[HR.out,jt];rfl,aj.out⟩
  ·have jt:decide (1<=ty)=false:=tQ h1;go_wp2_with fail;exact bodyPost_ret (v:=.bool false) (by simp[results,results207,go_sem]) rfl ⟨by rw[HR.out,jt];rfl,aj.out⟩
theorem Rn(t:Int)(w:World):Calls prog 208 #[.int .i64 t] w λe w'=>e = .returned (.bool (decide (0<=t)&&decide (t<=20000000)))/\w'=w:=by
 by_cases h1:0<=t
 ·have jt:decide (0<=t)=true:=uQ h1;go_enter func208,ntmps208;go_wp2_with fail;exact bodyPost_ret (v:=.bool (decide (t<=20000000))) (by simp[results,results208,go_sem]) rfl ⟨by first | rfl | (rw[jt];rfl),rfl⟩
 ·have jt:decide (0<=t)=false:=tQ h1;go_enter func208,ntmps208;go_wp2_with fail;exact bodyPost_ret (v:=.bool false) (by simp[results,results208,go_sem]) rfl ⟨by first | rfl | (rw[jt];rfl),rfl⟩
theorem Ro(w:World):Calls prog 76 #[.agg #[.slice none 0 0]] w λe w'=>e = .returned (.bool true)/\Below w.heap.size w w':=by
 obtain⟨w1,ah⟩:∃ w1,(w.alloc (.cells #[.slice none 0 0] 76)).alloc (.map #[] 0)=w1:=⟨_,rfl⟩;have HB:Hid (Below w.heap.size w w1):=jq (by rw[<-ah];exact ((vQ _ _).alloc (bQ _) _).alloc (by simp) _);have k0:w1.cell? ⟨w.heap.size,0,none⟩=some (.slice none 0 0):=by rw[<-ah];simp[go_sem]
 have nF:∀ (w:World),(Instr.makeMap 219 none).run prog w = .ok (.map (some w.heap.size)) (w.alloc (.map #[] 0)):=λw=>by
  simp[Instr.makeMap,Result.andThen]
 go_enter func76,ntmps76;go_wp2_with fail;clear nF;go_loopw [14] (λi wr=>i = .int .i64 0/\Hid (Below w.heap.size w wr)) (λi _=>0)
 case atStart=>exact⟨rfl,HB⟩
 case round=>
  obtain⟨rfl,HR⟩:=hrel;go_wp2_with fail;exact bodyPost_ret (v:=.bool true) (by simp[results,results76,go_sem]) rfl ⟨rfl,HR.out⟩
theorem Zu(w:World):Calls prog 209 #[.agg #[.slice none 0 0],.int .i64 0] w λe w'=>e = .returned (.func (.func 281) #[] #[.pointer (some ⟨w.heap.size,0,none⟩),.pointer (some ⟨w.heap.size+1,0,none⟩)])/\w'=(w.alloc (.cells #[.slice none 0 0] 76)).alloc (.cells #[.int .i64 0] 3):=by
 go_enter func209,ntmps209;go_wp2_with fail;go_ret;exact⟨rfl,rfl⟩
theorem Sd:∀ args w,(callFunc 281 args).run prog w = .ok (.enter 281 args) w:=enters_of func281 (by kernel_rfl) rfl
theorem Zv(X T:Nat)(Dr:Nat->Prop)(w:World)(hX:Dr X)(kX:w.cell? ⟨X,0,none⟩=some (.slice none 0 0)) :
 xr prog 281 (λy=>#[y,.pointer (some ⟨X,0,none⟩),.pointer (some ⟨T,0,none⟩)]) (λ_:Unit=>#[.int .i64 0]) [] Dr w:=by
 intro l J Jx S W hW hJ Bi hY hS hS' h0;have k1:=(hW.cell (p:=⟨X,0,none⟩) hX).trans kX;clear hW kX;refine callsIn_of_wp func281 rfl trivial ?_ rfl;simp only[ntmps281,List.size_toArray,List.length_cons,List.length_nil,Nat.reduceAdd,Nat.reduceSub,Array.replicate_succ,Array.replicate_zero,List.push_toArray,List.append_toArray,List.nil_append,List.cons_append];gi_wp2_with fail;gi_loopw [9] (λi wr=>i = .int .i64 0/\J [] S wr) (λ_ _=>0)
 case atStart=>exact⟨rfl,h0⟩
 case round=>
  obtain⟨rfl,hj⟩:=hrel;gi_wp2_with fail;go_end0;exact⟨⟨_,rfl⟩,.inl ⟨S,hj,λ_ e=>.inl e⟩⟩
theorem Rl(n:ByteArray)(hn:n.size<=140737488355328)(ty:Int)(w:World):Calls prog 126 #[.agg #[.slice none 0 0],.agg #[.string n,.int .i64 ty],.int .i64 0] w λe w'=>e = .returned (.tuple #[.agg #[.string ⟨#[]⟩,.int .i64 0,.int .i64 0,.slice none 0 0,.slice none 0 0,.string ⟨#[]⟩,.int .i64 0],.bool false,.int .i64 (if (Np.aC n.data.toList&&(decide (1<=ty)&&decide (ty<=8)))=true then 0 else 1)])/\Below w.heap.size w w':=by
 obtain⟨r,hr⟩:∃ r,(Np.aC n.data.toList&&(decide (1<=ty)&&decide (ty<=8)))=r:=⟨_,rfl⟩;have fK:=jq hr;rw[hr];clear hr;obtain⟨X,hX⟩:∃ X,w.heap.size=X:=⟨_,rfl⟩;obtain⟨w1,ah⟩:∃ w1,((((w.alloc (.cells #[.slice none 0 0] 76)).alloc (.cells #[.string n,.int .i64 ty] 31)).alloc (.cells #[.string ⟨#[]⟩,.int .i64 0,.int .i64 0,.slice none 0 0,.slice none 0 0,.string ⟨#[]⟩,.int .i64 0] 83)).alloc (.cells #[.bool false] 4)).alloc (.cells #[.int .i64 0] 37)=w1:=⟨_,rfl⟩;have bj:w1.heap.size=X+5:=by rw[<-ah,<-hX];simp
 have hb:Below w.heap.size w w1:=by rw[<-ah];exact (((((vQ _ _).alloc (bQ _) _).alloc (by simp) _).alloc (by simp <;> omega) _).alloc (by simp <;> omega) _).alloc (by simp <;> omega) _
 have k0:w1.cell? ⟨X,0,none⟩=some (.slice none 0 0):=by rw[<-ah,<-hX];simp[go_sem]
 have k1:w1.cell? ⟨X+1,0,none⟩=some (.string n):=by rw[<-ah,<-hX];simp[go_sem]
 have k2:w1.cell? ⟨X+1,1,none⟩=some (.int .i64 ty):=by rw[<-ah,<-hX];simp[go_sem]
 have oE:w1.heap[X+1+1]?=some (.cells #[.string ⟨#[]⟩,.int .i64 0,.int .i64 0,.slice none 0 0,.slice none 0 0,.string ⟨#[]⟩,.int .i64 0] 83 (0,0)):=by
  rw[<-ah,<-hX];have h0:=heap_alloc_new ((w.alloc (.cells #[.slice none 0 0] 76)).alloc (.cells #[.string n,.int .i64 ty] 31)) (.cells #[.string ⟨#[]⟩,.int .i64 0,.int .i64 0,.slice none 0 0,.slice none 0 0,.string ⟨#[]⟩,.int .i64 0] 83);rw[Below.heap_alloc _ _ _ (by simp <;> omega),Below.heap_alloc _ _ _ (by simp <;> omega)];simpa using h0
 have oB:Boxed w1 (X+1+1+1) 4 (.bool false):=by
  rw[<-ah,<-hX];have h0:=(Boxed.new (((w.alloc (.cells #[.slice none 0 0] 76)).alloc (.cells #[.string n,.int .i64 ty] 31)).alloc (.cells #[.string ⟨#[]⟩,.int .i64 0,.int .i64 0,.slice none 0 0,.slice none 0 0,.string ⟨#[]⟩,.int .i64 0] 83)) 4 (.bool false)).alloc (.cells #[.int .i64 0] 37);simpa using h0
 have oR:Boxed w1 (X+1+1+1+1) 37 (.int .i64 0):=by
  rw[<-ah,<-hX];have h0:=Boxed.new ((((w.alloc (.cells #[.slice none 0 0] 76)).alloc (.cells #[.string n,.int .i64 ty] 31)).alloc (.cells #[.string ⟨#[]⟩,.int .i64 0,.int .i64 0,.slice none 0 0,.slice none 0 0,.string ⟨#[]⟩,.int .i64 0] 83)).alloc (.cells #[.bool false] 4)) 37 (.int .i64 0);simpa using h0
 have um:=jq (And.intro oE (And.intro oB oR));rw[hX] at hb |-;have aq:=jq hb;clear hb oE oB oR;refine (callsIn_wide (n:=0)).1 ?_;refine callsIn_of_wp_marks func126 rfl trivial ?_ rfl;simp only[ntmps126,List.size_toArray,List.length_cons,List.length_nil,Nat.reduceAdd,Nat.reduceSub,Array.replicate_succ,Array.replicate_zero,List.push_toArray,List.append_toArray,List.nil_append,List.cons_append];gi_wp2_with fail;clear ah;refine⟨trivial,rfl,?_⟩;refine (callsIn_wide.2 (Ro w1)).mono ?_;rintro e w2 ⟨rfl,hb⟩;replace k0:=(cl hb (by omega)).trans k0;replace k1:=(cl hb (by omega)).trans k1;replace k2:=(cl hb (by omega)).trans k2;have aj:=jq (aq.out.trans (hb.mono (by omega)));have dG:=jq hb;have aJ:=hb.size;clear hb;gi_wp2_with fail;refine⟨trivial,rfl,?_⟩;refine (callsIn_wide.2 (Rm n hn ty w2)).mono ?_;rw[fK.out];rintro e w3 ⟨rfl,hb⟩;replace k0:=(cl hb (by omega)).trans k0;have ar:=jq (aj.out.trans (hb.mono (by omega)));have gh:=jq (dG.out.trans (hb.mono (by omega)));have el:=hb.size;clear hb k1 k2
 cases r with
 | false=>
  have oE:=(gh.out.block (X+1+1) (by omega)).trans um.out.1;have oB:Boxed w3 (X+1+1+1) 4 (.bool false):=cG um.out.2.1 gh.out (by omega);have oR:Boxed w3 (X+1+1+1+1) 37 (.int .i64 0):=cG um.out.2.2 gh.out (by omega);have y0:w3.cell? ⟨X+1+1,0,none⟩=some (.string ⟨#[]⟩):=by simp[World.cell?,oE]
  have z0:w3.frozen? ⟨X+1+1,0,none⟩=false:=by simp[World.frozen?,oE]
  have y1:w3.cell? ⟨X+1+1,1,none⟩=some (.int .i64 0):=by simp[World.cell?,oE]
  have z1:w3.frozen? ⟨X+1+1,1,none⟩=false:=by simp[World.frozen?,oE]
  have y2:w3.cell? ⟨X+1+1,2,none⟩=some (.int .i64 0):=by simp[World.cell?,oE]
  have z2:w3.frozen? ⟨X+1+1,2,none⟩=false:=by simp[World.frozen?,oE]
  have y3:w3.cell? ⟨X+1+1,3,none⟩=some (.slice none 0 0):=by simp[World.cell?,oE]
  have z3:w3.frozen? ⟨X+1+1,3,none⟩=false:=by simp[World.frozen?,oE]
  have y4:w3.cell? ⟨X+1+1,4,none⟩=some (.slice none 0 0):=by simp[World.cell?,oE]
  have z4:w3.frozen? ⟨X+1+1,4,none⟩=false:=by simp[World.frozen?,oE]
  have y5:w3.cell? ⟨X+1+1,5,none⟩=some (.string ⟨#[]⟩):=by simp[World.cell?,oE]
  have z5:w3.frozen? ⟨X+1+1,5,none⟩=false:=by simp[World.frozen?,oE]
  have y6:w3.cell? ⟨X+1+1,6,none⟩=some (.int .i64 0):=by simp[World.cell?,oE]
  have z6:w3.frozen? ⟨X+1+1,6,none⟩=false:=by simp[World.frozen?,oE]
  have bb:=oB.cell;have cb:=oB.frozen;have be:=oR.cell;have ce:=oR.frozen;clear oE oB oR k0;gi_wp2_with fail;refine⟨trivial,?_⟩;gi_wp2_with fail;obtain⟨WF,fe⟩:∃ WF,((((((((((w3.setCell ⟨X+1+1,0,none⟩ (.string ⟨#[]⟩)).setCell ⟨X+1+1,1,none⟩ (.int .i64 0)).setCell ⟨X+1+1,2,none⟩ (.int .i64 0)).setCell ⟨X+1+1,3,none⟩ (.slice none 0 0)).setCell ⟨X+1+1,4,none⟩ (.slice none 0 0)).setCell ⟨X+1+1,5,none⟩ (.string ⟨#[]⟩)).setCell ⟨X+1+1,6,none⟩ (.int .i64 0))).setCell ⟨X+1+1+1,0,none⟩ (.bool false)).setCell ⟨X+1+1+1+1,0,none⟩ (.int .i64 1))=WF:=⟨_,rfl⟩;have qp:Hid (Below X w WF):=jq (by rw[<-fe];exact (((((((((ar.out.setCell (by dsimp only;omega) _).setCell (by dsimp only;omega) _).setCell (by dsimp only;omega) _).setCell (by dsimp only;omega) _).setCell (by dsimp only;omega) _).setCell (by dsimp only;omega) _).setCell (by dsimp only;omega) _).setCell (by dsimp only;omega) _).setCell (by dsimp only;omega) _));have B3:WF.heap.size=w3.heap.size:=by rw[<-fe];simp[World.setCell]
  have e0:WF.cell? ⟨X+1+1,0,none⟩=some (.string ⟨#[]⟩):=by rw[<-fe];simp[go_sem,y0]
  have e1:WF.cell? ⟨X+1+1,1,none⟩=some (.int .i64 0):=by rw[<-fe];simp[go_sem,y1]
  have e2:WF.cell? ⟨X+1+1,2,none⟩=some (.int .i64 0):=by rw[<-fe];simp[go_sem,y2]
  have e3:WF.cell? ⟨X+1+1,3,none⟩=some (.slice none 0 0):=by rw[<-fe];simp[go_sem,y3]
  have e4:WF.cell? ⟨X+1+1,4,none⟩=some (.slice none 0 0):=by rw[<-fe];simp[go_sem,y4]
  have e5:WF.cell? ⟨X+1+1,5,none⟩=some (.string ⟨#[]⟩):=by rw[<-fe];simp[go_sem,y5]
  have e6:WF.cell? ⟨X+1+1,6,none⟩=some (.int .i64 0):=by rw[<-fe];simp[go_sem,y6]
  have eb:WF.cell? ⟨X+1+1+1,0,none⟩=some (.bool false):=by rw[<-fe];simp[go_sem,bb]
  have ee:WF.cell? ⟨X+1+1+1+1,0,none⟩=some (.int .i64 1):=by rw[<-fe];simp[go_sem,be]
  rw[fe];exact mu (v:=.tuple #[.agg #[.string ⟨#[]⟩,.int .i64 0,.int .i64 0,.slice none 0 0,.slice none 0 0,.string ⟨#[]⟩,.int .i64 0],.bool false,.int .i64 1]) (by simp[results,results126,go_sem,e0,e1,e2,e3,e4,e5,e6,eb,ee]) ⟨rfl,qp.out⟩
 | true=>
  gi_wp2_with fail;refine⟨trivial,rfl,?_⟩;refine (callsIn_wide.2 (Rn 0 w3)).mono ?_;rintro e w4 ⟨rfl,h4⟩;rw[h4];clear h4 w4;gi_wp2_with fail;refine⟨trivial,rfl,?_⟩;refine (callsIn_wide.2 (Zu w3)).mono ?_;rintro e w6 ⟨rfl,cg⟩;have aT:Below w3.heap.size w3 w6:=by rw[cg];exact ((vQ _ _).alloc (bQ _) _).alloc (by simp) _
  have kX:w6.cell? ⟨w3.heap.size,0,none⟩=some (.slice none 0 0):=by rw[cg];simp[go_sem]
  have gm:w6.heap.size=w3.heap.size+2:=by rw[cg];simp
  have wH:=jq (Zv w3.heap.size (w3.heap.size+1) (λk=>k<w6.heap.size) w6 (by omega) kX);have dg:=jq (ar.out.trans (aT.mono (by omega)));have pd:=jq (gh.out.trans (aT.mono (by omega)));have I5:=jq gm;clear cg kX aT k0;gi_wp2_with fail;refine GZ (Dr:=λk=>k<w6.heap.size) (w0:=w6) (first:=#[]) (captured:=#[.pointer (some ⟨w3.heap.size,0,none⟩),.pointer (some ⟨w3.heap.size+1,0,none⟩)]) (gf:=281) rfl Sd (mk:=λy=>#[y,.pointer (some ⟨w3.heap.size,0,none⟩),.pointer (some ⟨w3.heap.size+1,0,none⟩)]) (λ_=>rfl)
   wH.out (dH.refl λk e=>e) (λ_=>rfl) (λ_ _ W=>Below w6.heap.size w6 W) (λ_ _ _ _=>False)
   (λs S W W' h aA=>sO h aA (bQ _) (bQ _)) (λc s S W W' h _=>h)
   (λk=>False) (λk h _=>h) (λk h=>h.elim) (vQ _ _) ?round ?done ?stop
  case stop=>
   rintro D c pre S W hD fX aV fD h hK;exact h.elim
  case round=>
   rintro l0 pre x S W bp hI fd;exact absurd bp (by simp)
  case done=>
   rintro D S W hD fX aV hI hK;have oE:=(hI.block (X+1+1) (by omega)).trans ((pd.out.block (X+1+1) (by omega)).trans um.out.1);have oB:Boxed W (X+1+1+1) 4 (.bool false):=cG (cG um.out.2.1 pd.out (by omega)) hI (by omega);have oR:Boxed W (X+1+1+1+1) 37 (.int .i64 0):=cG (cG um.out.2.2 pd.out (by omega)) hI (by omega);have B4:=hI.size;have y0:W.cell? ⟨X+1+1,0,none⟩=some (.string ⟨#[]⟩):=by simp[World.cell?,oE]
   have z0:W.frozen? ⟨X+1+1,0,none⟩=false:=by simp[World.frozen?,oE]
   have y1:W.cell? ⟨X+1+1,1,none⟩=some (.int .i64 0):=by simp[World.cell?,oE]
   have z1:W.frozen? ⟨X+1+1,1,none⟩=false:=by simp[World.frozen?,oE]
   have y2:W.cell? ⟨X+1+1,2,none⟩=some (.int .i64 0):=by simp[World.cell?,oE]
   have z2:W.frozen? ⟨X+1+1,2,none⟩=false:=by simp[World.frozen?,oE]
   have y3:W.cell? ⟨X+1+1,3,none⟩=some (.slice none 0 0):=by simp[World.cell?,oE]
   have z3:W.frozen? ⟨X+1+1,3,none⟩=false:=by simp[World.frozen?,oE]
   have y4:W.cell? ⟨X+1+1,4,none⟩=some (.slice none 0 0):=by simp[World.cell?,oE]
   have z4:W.frozen? ⟨X+1+1,4,none⟩=false:=by simp[World.frozen?,oE]
   have y5:W.cell? ⟨X+1+1,5,none⟩=some (.string ⟨#[]⟩):=by simp[World.cell?,oE]
   have z5:W.frozen? ⟨X+1+1,5,none⟩=false:=by simp[World.frozen?,oE]
   have y6:W.cell? ⟨X+1+1,6,none⟩=some (.int .i64 0):=by simp[World.cell?,oE]
   have z6:W.frozen? ⟨X+1+1,6,none⟩=false:=by simp[World.frozen?,oE]
   have bb:=oB.cell;have cb:=oB.frozen;have be:=oR.cell;have ce:=oR.frozen;have aP:=jq (dg.out.trans (hI.mono (by omega)));have nZ:=jq hK;clear oE oB oR hI hK;gi_wp2_with fail;obtain⟨WF,fe⟩:∃ WF,((((((((((W.setCell ⟨X+1+1,0,none⟩ (.string ⟨#[]⟩)).setCell ⟨X+1+1,1,none⟩ (.int .i64 0)).setCell ⟨X+1+1,2,none⟩ (.int .i64 0)).setCell ⟨X+1+1,3,none⟩ (.slice none 0 0)).setCell ⟨X+1+1,4,none⟩ (.slice none 0 0)).setCell ⟨X+1+1,5,none⟩ (.string ⟨#[]⟩)).setCell ⟨X+1+1,6,none⟩ (.int .i64 0))).setCell ⟨X+1+1+1,0,none⟩ (.bool false)).setCell ⟨X+1+1+1+1,0,none⟩ (.int .i64 0))=WF:=⟨_,rfl⟩;have qp:Hid (Below X w WF):=jq (by rw[<-fe];exact (((((((((aP.out.setCell (by dsimp only;omega) _).setCell (by dsimp only;omega) _).setCell (by dsimp only;omega) _).setCell (by dsimp only;omega) _).setCell (by dsimp only;omega) _).setCell (by dsimp only;omega) _).setCell (by dsimp only;omega) _).setCell (by dsimp only;omega) _).setCell (by dsimp only;omega) _));have B3:WF.heap.size=W.heap.size:=by rw[<-fe];simp[World.setCell]
   have e0:WF.cell? ⟨X+1+1,0,none⟩=some (.string ⟨#[]⟩):=by rw[<-fe];simp[go_sem,y0]
   have e1:WF.cell? ⟨X+1+1,1,none⟩=some (.int .i64 0):=by rw[<-fe];simp[go_sem,y1]
   have e2:WF.cell? ⟨X+1+1,2,none⟩=some (.int .i64 0):=by rw[<-fe];simp[go_sem,y2]
   have e3:WF.cell? ⟨X+1+1,3,none⟩=some (.slice none 0 0):=by rw[<-fe];simp[go_sem,y3]
   have e4:WF.cell? ⟨X+1+1,4,none⟩=some (.slice none 0 0):=by rw[<-fe];simp[go_sem,y4]
   have e5:WF.cell? ⟨X+1+1,5,none⟩=some (.string ⟨#[]⟩):=by rw[<-fe];simp[go_sem,y5]
   have e6:WF.cell? ⟨X+1+1,6,none⟩=some (.int .i64 0):=by rw[<-fe];simp[go_sem,y6]
   have eb:WF.cell? ⟨X+1+1+1,0,none⟩=some (.bool false):=by rw[<-fe];simp[go_sem,bb]
   have ee:WF.cell? ⟨X+1+1+1+1,0,none⟩=some (.int .i64 0):=by rw[<-fe];simp[go_sem,be]
   rw[fe];have SX:WF.heap[D]?=some (.deferred (some [])):=by
    rw[<-fe];simp only[World.setCell,Array.getElem?_modify];simp[show X+1+1≠D by omega,show X+1+1+1≠D by omega,show X+1+1+1+1≠D by omega,nZ.out]
   have q:∀ b o v,WF.cell? ⟨b,o,none⟩=some v->b≠D->(WF.putObj D (.deferred none)).cell? ⟨b,o,none⟩=some v:=λb o v h hb=>(iQ (zQ hb)).trans h;refine nj SX (v:=.tuple #[.agg #[.string ⟨#[]⟩,.int .i64 0,.int .i64 0,.slice none 0 0,.slice none 0 0,.string ⟨#[]⟩,.int .i64 0],.bool false,.int .i64 0]) (by simp[results,results126,go_sem,q _ _ _ e0 (by omega),q _ _ _ e1 (by omega),q _ _ _ e2 (by omega),q _ _ _ e3 (by omega),q _ _ _ e4 (by omega),q _ _ _ e5 (by omega),q _ _ _ e6 (by omega),q _ _ _ eb (by omega),q _ _ _ ee (by omega)]) ⟨rfl,ni qp.out (by omega) _⟩
theorem Np.XE{n:List UInt8}{ty:Int} : (Np.aC n&&(decide (1<=ty)&&decide (ty<=8)))=true↔Np.QOk n ty:=by
 unfold Np.QOk;simp only[Bool.and_eq_true,Qa]
theorem UE(n:ByteArray)(hn:n.size<=140737488355328)(ty:Int)(w:World):Calls prog 57 #[.agg #[.string n,.int .i64 ty]] w λe w'=>e = .returned (.bool (Np.yes (Np.QOk n.data.toList ty)))/\Below w.heap.size w w':=by
 obtain⟨r,hr⟩:∃ r,(Np.aC n.data.toList&&(decide (1<=ty)&&decide (ty<=8)))=r:=⟨_,rfl⟩;have fK:=jq hr;have QK:Hid (Np.yes (Np.QOk n.data.toList ty)=r):=jq (by rw[Bool.eq_iff_iff,Np.ew,<-hr,Np.XE]);rw[QK.out];clear hr;obtain⟨w1,ah⟩:∃ w1,w.alloc (.cells #[.string n,.int .i64 ty] 31)=w1:=⟨_,rfl⟩;have hb:Below w.heap.size w w1:=by rw[<-ah];exact (vQ _ _).alloc (bQ _) _
 have k0:w1.cell? ⟨w.heap.size,0,none⟩=some (.string n):=by rw[<-ah];simp[go_sem]
 have k1:w1.cell? ⟨w.heap.size,1,none⟩=some (.int .i64 ty):=by rw[<-ah];simp[go_sem]
 have aq:=jq hb;clear hb;go_enter func57,ntmps57;go_wp2_with fail;clear ah;refine (Rl n hn ty w1).mono ?_;rw[fK.out];rintro e w2 ⟨rfl,hb⟩;have aj:=jq (aq.out.trans (hb.mono aq.out.size));have aJ:=aj.out.size;clear hb k0 k1
 cases r with
 | false=>
  go_wp2_with fail;exact bodyPost_ret (v:=.bool false) (by simp[results,results57,go_sem]) rfl ⟨rfl,aj.out.alloc (by omega) _⟩
 | true=>
  go_wp2_with fail;exact bodyPost_ret (v:=.bool true) (by simp[results,results57,go_sem]) rfl ⟨rfl,aj.out.alloc (by omega) _⟩
end
section
open Go.ChangeShapes Go.WideShapes Go.ChangeAt Go.RowKit Go.Deep
def pm{α:Type}(R:World->Nat->List Value->α->Prop)(P:α->Prop)(W:World)(B:Nat)(e:List Value)(x:α):Prop:=R W B e x/\P x
theorem SlR.both{α:Type}{R:World->Nat->List Value->α->Prop}{P:α->Prop}{sz:Nat}{W:World}{B:Nat}{v:Value}{xs:List α}(h:SlR (pm R P) sz W B v xs):SlR R sz W B v xs/\∀ x∈xs,P x:=by
 obtain⟨A,c,h1,h2,h3,h4⟩:=h;refine⟨⟨A,c,h1,h2,h3,λi x hx=>?_⟩,λx hx=>?_⟩
 ·obtain⟨b,o,e,k1,k2,k3,k4,k5,_⟩:=h4 i x hx;exact⟨b,o,e,k1,k2,k3,k4,k5⟩
 ·obtain⟨i,hi⟩:=List.mem_iff_getElem?.1 hx;obtain⟨b,o,e,_,_,_,_,_,k⟩:=h4 i x hi;exact k
def Je(g:Np.Sig):Prop:=0<=g.sum/\g.sum<18446744073709551616
def Jg(z:Np.Zone):Prop:=∀ s∈z.sets,Np.ux s
def Jf(c:Np.Copy):Prop:=Jg c.zone
theorem Zk{x:Int}(h:(Lit.int .u64 x).wf=true):0<=x/\x<18446744073709551616:=by
 have:=bounds_u64 h
 omega
theorem Rt:prog.cellsOf 24=1:=by kernel_rfl
theorem Rw:prog.cellsOf 40=1:=by kernel_rfl
theorem Rx:prog.cellsOf 36=1:=by kernel_rfl
theorem Ry:prog.cellsOf 48=1:=by kernel_rfl
theorem Jw:prog.cellsOf 26=4:=by kernel_rfl
theorem Rz:prog.cellsOf 44=2:=by kernel_rfl
theorem Ru:prog.cellsOf 22=1:=by kernel_rfl
theorem Rs:prog.cellsOf 23=1:=by kernel_rfl
theorem Rv:prog.cellsOf 27=1:=by kernel_rfl
def RSet(W:World)(B:Nat)(e:List Value)(x:Np.DSet):Prop:=∃ (s:ByteArray) (v:Value),s.data.toList=x.name/\s.size<=140737488355328/\SlR bn 3 W B v x.data/\e = [.string s,.int .i64 x.type,.int .i64 x.life,v]
theorem XL:gB prog 128 3 bn:=by
 intro H enc W base spare held fuel cs d ps h hw;obtain⟨hl,hf⟩:=qg underlying128 h hw;have hl':cs.length=3:=hl.trans (by kernel_rfl);clear hl
 match cs,hl' with
 | [c0,c1,c2],_=>
  obtain⟨n0,d0,p0,t0,w0⟩:=hf 0 _ rfl;have t0':DataW.trod enc prog W base spare held n0 9 (([c0,c1,c2].drop 0).take (prog.cellsOf 9))=some (d0,p0):=t0;rw[uA] at t0';have u0:DataW.trod enc prog W base spare held n0 9 [c0]=some (d0,p0):=t0';obtain⟨n1,d1,p1,t1,w1⟩:=hf 1 _ rfl;have t1':DataW.trod enc prog W base spare held n1 3 (([c0,c1,c2].drop 1).take (prog.cellsOf 3))=some (d1,p1):=t1;rw[gE] at t1';have u1:DataW.trod enc prog W base spare held n1 3 [c1]=some (d1,p1):=t1';obtain⟨n2,d2,p2,t2,w2⟩:=hf 2 _ rfl;have t2':DataW.trod enc prog W base spare held n2 3 (([c0,c1,c2].drop 2).take (prog.cellsOf 3))=some (d2,p2):=t2;rw[gE] at t2';have u2:DataW.trod enc prog W base spare held n2 3 [c2]=some (d2,p2):=t2';obtain⟨_,_,s0,_,fP,dX⟩:=vG underlying9 H enc W base spare held n0 _ _ _ u0 w0;obtain rfl:c0 = .string s0:=by simpa using dX
  obtain⟨_,x1,cU,wf1⟩:=jb underlying3 H enc W base spare held n1 _ _ _ u1 w1;obtain rfl:c1 = .int .i64 x1:=by simpa using cU
  obtain⟨_,x2,mD,wf2⟩:=jb underlying3 H enc W base spare held n2 _ _ _ u2 w2;obtain rfl:c2 = .int .i64 x2:=by simpa using mD
  exact⟨rfl,⟨s0.data.toList,x1,x2⟩,s0,rfl,fP,rfl⟩
theorem XK:gB prog 24 1 (RSl bn 3):=vF underlying24 (by kernel_rfl) (by decide) (of_decide_eq_true (by kernel_rfl)) XL
theorem M5:gB prog 26 4 RSet:=by
 intro H enc W base spare held fuel cs d ps h hw;obtain⟨hl,hf⟩:=qg underlying26 h hw;have hl':cs.length=4:=hl.trans (by kernel_rfl);clear hl
 match cs,hl' with
 | [c0,c1,c2,c3],_=>
  obtain⟨n0,d0,p0,t0,w0⟩:=hf 0 _ rfl;have t0':DataW.trod enc prog W base spare held n0 9 (([c0,c1,c2,c3].drop 0).take (prog.cellsOf 9))=some (d0,p0):=t0;rw[uA] at t0';have u0:DataW.trod enc prog W base spare held n0 9 [c0]=some (d0,p0):=t0';obtain⟨n1,d1,p1,t1,w1⟩:=hf 1 _ rfl;have t1':DataW.trod enc prog W base spare held n1 3 (([c0,c1,c2,c3].drop 1).take (prog.cellsOf 3))=some (d1,p1):=t1;rw[gE] at t1';have u1:DataW.trod enc prog W base spare held n1 3 [c1]=some (d1,p1):=t1';obtain⟨n2,d2,p2,t2,w2⟩:=hf 2 _ rfl;have t2':DataW.trod enc prog W base spare held n2 3 (([c0,c1,c2,c3].drop 2).take (prog.cellsOf 3))=some (d2,p2):=t2;rw[gE] at t2';have u2:DataW.trod enc prog W base spare held n2 3 [c2]=some (d2,p2):=t2';obtain⟨n3,d3,p3,t3,w3⟩:=hf 3 _ rfl;have t3':DataW.trod enc prog W base spare held n3 24 (([c0,c1,c2,c3].drop 3).take (prog.cellsOf 24))=some (d3,p3):=t3;rw[Rt] at t3';have u3:DataW.trod enc prog W base spare held n3 24 [c3]=some (d3,p3):=t3';obtain⟨_,_,s0,_,fP,dX⟩:=vG underlying9 H enc W base spare held n0 _ _ _ u0 w0;obtain rfl:c0 = .string s0:=by simpa using dX
  obtain⟨_,x1,cU,wf1⟩:=jb underlying3 H enc W base spare held n1 _ _ _ u1 w1;obtain rfl:c1 = .int .i64 x1:=by simpa using cU
  obtain⟨_,x2,mD,wf2⟩:=jb underlying3 H enc W base spare held n2 _ _ _ u2 w2;obtain rfl:c2 = .int .i64 x2:=by simpa using mD
  obtain⟨_,x3,v3,rE,FP⟩:=XK H enc W base spare held n3 _ _ _ u3 w3;obtain rfl:c3=v3:=by simpa using rE
  exact⟨rfl,⟨s0.data.toList,x1,x2,x3⟩,s0,_,rfl,fP,FP,rfl⟩
theorem XQ:gB prog 50 6 (pm dj Je):=by
 intro H enc W base spare held fuel cs d ps h hw;obtain⟨hl,hf⟩:=qg underlying50 h hw;have hl':cs.length=6:=hl.trans (by kernel_rfl);clear hl
 match cs,hl' with
 | [c0,c1,c2,c3,c4,c5],_=>
  obtain⟨n0,d0,p0,t0,w0⟩:=hf 0 _ rfl;have t0':DataW.trod enc prog W base spare held n0 9 (([c0,c1,c2,c3,c4,c5].drop 0).take (prog.cellsOf 9))=some (d0,p0):=t0;rw[uA] at t0';have u0:DataW.trod enc prog W base spare held n0 9 [c0]=some (d0,p0):=t0';obtain⟨n1,d1,p1,t1,w1⟩:=hf 1 _ rfl;have t1':DataW.trod enc prog W base spare held n1 3 (([c0,c1,c2,c3,c4,c5].drop 1).take (prog.cellsOf 3))=some (d1,p1):=t1;rw[gE] at t1';have u1:DataW.trod enc prog W base spare held n1 3 [c1]=some (d1,p1):=t1';obtain⟨n2,d2,p2,t2,w2⟩:=hf 2 _ rfl;have t2':DataW.trod enc prog W base spare held n2 3 (([c0,c1,c2,c3,c4,c5].drop 2).take (prog.cellsOf 3))=some (d2,p2):=t2;rw[gE] at t2';have u2:DataW.trod enc prog W base spare held n2 3 [c2]=some (d2,p2):=t2';obtain⟨n3,d3,p3,t3,w3⟩:=hf 3 _ rfl;have t3':DataW.trod enc prog W base spare held n3 3 (([c0,c1,c2,c3,c4,c5].drop 3).take (prog.cellsOf 3))=some (d3,p3):=t3;rw[gE] at t3';have u3:DataW.trod enc prog W base spare held n3 3 [c3]=some (d3,p3):=t3';obtain⟨n4,d4,p4,t4,w4⟩:=hf 4 _ rfl;have t4':DataW.trod enc prog W base spare held n4 3 (([c0,c1,c2,c3,c4,c5].drop 4).take (prog.cellsOf 3))=some (d4,p4):=t4;rw[gE] at t4';have u4:DataW.trod enc prog W base spare held n4 3 [c4]=some (d4,p4):=t4';obtain⟨n5,d5,p5,t5,w5⟩:=hf 5 _ rfl;have t5':DataW.trod enc prog W base spare held n5 48 (([c0,c1,c2,c3,c4,c5].drop 5).take (prog.cellsOf 48))=some (d5,p5):=t5;rw[Ry] at t5';have u5:DataW.trod enc prog W base spare held n5 48 [c5]=some (d5,p5):=t5';obtain⟨_,_,s0,_,fP,dX⟩:=vG underlying9 H enc W base spare held n0 _ _ _ u0 w0;obtain rfl:c0 = .string s0:=by simpa using dX
  obtain⟨_,x1,cU,wf1⟩:=jb underlying3 H enc W base spare held n1 _ _ _ u1 w1;obtain rfl:c1 = .int .i64 x1:=by simpa using cU
  obtain⟨_,x2,mD,wf2⟩:=jb underlying3 H enc W base spare held n2 _ _ _ u2 w2;obtain rfl:c2 = .int .i64 x2:=by simpa using mD
  obtain⟨_,x3,rE,wf3⟩:=jb underlying3 H enc W base spare held n3 _ _ _ u3 w3;obtain rfl:c3 = .int .i64 x3:=by simpa using rE
  obtain⟨_,x4,F4,wf4⟩:=jb underlying3 H enc W base spare held n4 _ _ _ u4 w4;obtain rfl:c4 = .int .i64 x4:=by simpa using F4
  obtain⟨_,x5,F5,wf5⟩:=jb underlying48 H enc W base spare held n5 _ _ _ u5 w5;obtain rfl:c5 = .int .u64 x5:=by simpa using F5
  exact⟨rfl,⟨s0.data.toList,x1,x2,x3,x4,x5⟩,⟨s0,rfl,fP,rfl⟩,Zk wf5⟩
theorem XT:gB prog 40 1 (RSl (pm dj Je) 6):=vF underlying40 (by kernel_rfl) (by decide) (of_decide_eq_true (by kernel_rfl)) XQ
theorem XR:gB prog 42 5 (pm bh Np.ux):=by
 intro H enc W base spare held fuel cs d ps h hw;obtain⟨hl,hf⟩:=qg underlying42 h hw;have hl':cs.length=5:=hl.trans (by kernel_rfl);clear hl
 match cs,hl' with
 | [c0,c1,c2,c3,c4],_=>
  obtain⟨n0,d0,p0,t0,w0⟩:=hf 0 _ rfl;have t0':DataW.trod enc prog W base spare held n0 26 (([c0,c1,c2,c3,c4].drop 0).take (prog.cellsOf 26))=some (d0,p0):=t0;rw[Jw] at t0';have u0:DataW.trod enc prog W base spare held n0 26 [c0,c1,c2,c3]=some (d0,p0):=t0';obtain⟨n1,d1,p1,t1,w1⟩:=hf 1 _ rfl;have t1':DataW.trod enc prog W base spare held n1 40 (([c0,c1,c2,c3,c4].drop 4).take (prog.cellsOf 40))=some (d1,p1):=t1;rw[Rw] at t1';have u1:DataW.trod enc prog W base spare held n1 40 [c4]=some (d1,p1):=t1';obtain⟨_,x0,dX⟩:=M5 H enc W base spare held n0 _ _ _ u0 w0;obtain⟨_,x1,v1,cU,rA⟩:=XT H enc W base spare held n1 _ _ _ u1 w1;obtain rfl:c4=v1:=by simpa using cU
  obtain⟨sa,va,ha,hb,hc,hd⟩:=dX;exact⟨rfl,⟨x0,x1⟩,⟨sa,va,_,ha,hb,hc,rA.both.1,by rw[List.cons.injEq,List.cons.injEq,List.cons.injEq,List.cons.injEq] at hd;obtain⟨rfl,rfl,rfl,rfl,_⟩:=hd;rfl⟩,rA.both.2⟩
theorem XS:gB prog 36 1 (RSl (pm bh Np.ux) 5):=vF underlying36 (by kernel_rfl) (by decide) (of_decide_eq_true (by kernel_rfl)) XR
theorem XU:gB prog 44 2 (pm QP Jg):=by
 intro H enc W base spare held fuel cs d ps h hw;obtain⟨hl,hf⟩:=qg underlying44 h hw;have hl':cs.length=2:=hl.trans (by kernel_rfl);clear hl
 match cs,hl' with
 | [c0,c1],_=>
  obtain⟨n0,d0,p0,t0,w0⟩:=hf 0 _ rfl;have t0':DataW.trod enc prog W base spare held n0 9 (([c0,c1].drop 0).take (prog.cellsOf 9))=some (d0,p0):=t0;rw[uA] at t0';have u0:DataW.trod enc prog W base spare held n0 9 [c0]=some (d0,p0):=t0';obtain⟨n1,d1,p1,t1,w1⟩:=hf 1 _ rfl;have t1':DataW.trod enc prog W base spare held n1 36 (([c0,c1].drop 1).take (prog.cellsOf 36))=some (d1,p1):=t1;rw[Rx] at t1';have u1:DataW.trod enc prog W base spare held n1 36 [c1]=some (d1,p1):=t1';obtain⟨_,_,s0,_,fP,dX⟩:=vG underlying9 H enc W base spare held n0 _ _ _ u0 w0;obtain rfl:c0 = .string s0:=by simpa using dX
  obtain⟨_,x1,v1,cU,rA⟩:=XS H enc W base spare held n1 _ _ _ u1 w1;obtain rfl:c1=v1:=by simpa using cU
  exact⟨rfl,⟨s0.data.toList,x1⟩,⟨s0,_,rfl,fP,rA.both.1,rfl⟩,rA.both.2⟩
theorem XJ:gB prog 46 5 (pm fU Jf):=by
 intro H enc W base spare held fuel cs d ps h hw;obtain⟨hl,hf⟩:=qg underlying46 h hw;have hl':cs.length=5:=hl.trans (by kernel_rfl);clear hl
 match cs,hl' with
 | [c0,c1,c2,c3,c4],_=>
  obtain⟨n0,d0,p0,t0,w0⟩:=hf 0 _ rfl;have t0':DataW.trod enc prog W base spare held n0 3 (([c0,c1,c2,c3,c4].drop 0).take (prog.cellsOf 3))=some (d0,p0):=t0;rw[gE] at t0';have u0:DataW.trod enc prog W base spare held n0 3 [c0]=some (d0,p0):=t0';obtain⟨n1,d1,p1,t1,w1⟩:=hf 1 _ rfl;have t1':DataW.trod enc prog W base spare held n1 3 (([c0,c1,c2,c3,c4].drop 1).take (prog.cellsOf 3))=some (d1,p1):=t1;rw[gE] at t1';have u1:DataW.trod enc prog W base spare held n1 3 [c1]=some (d1,p1):=t1';obtain⟨n2,d2,p2,t2,w2⟩:=hf 2 _ rfl;have t2':DataW.trod enc prog W base spare held n2 3 (([c0,c1,c2,c3,c4].drop 2).take (prog.cellsOf 3))=some (d2,p2):=t2;rw[gE] at t2';have u2:DataW.trod enc prog W base spare held n2 3 [c2]=some (d2,p2):=t2';obtain⟨n3,d3,p3,t3,w3⟩:=hf 3 _ rfl;have t3':DataW.trod enc prog W base spare held n3 44 (([c0,c1,c2,c3,c4].drop 3).take (prog.cellsOf 44))=some (d3,p3):=t3;rw[Rz] at t3';have u3:DataW.trod enc prog W base spare held n3 44 [c3,c4]=some (d3,p3):=t3';obtain⟨_,x0,dX,wf0⟩:=jb underlying3 H enc W base spare held n0 _ _ _ u0 w0;obtain rfl:c0 = .int .i64 x0:=by simpa using dX
  obtain⟨_,x1,cU,wf1⟩:=jb underlying3 H enc W base spare held n1 _ _ _ u1 w1;obtain rfl:c1 = .int .i64 x1:=by simpa using cU
  obtain⟨_,x2,mD,wf2⟩:=jb underlying3 H enc W base spare held n2 _ _ _ u2 w2;obtain rfl:c2 = .int .i64 x2:=by simpa using mD
  obtain⟨_,x3,rE⟩:=XU H enc W base spare held n3 _ _ _ u3 w3;obtain⟨⟨sa,va,ha,hb,hc,hd⟩,hp⟩:=rE;exact⟨rfl,⟨x0,x1,x2,x3⟩,⟨sa,va,ha,hb,hc,by rw[List.cons.injEq,List.cons.injEq] at hd;obtain⟨rfl,rfl,_⟩:=hd;rfl⟩,hp⟩
theorem XI:gB prog 23 1 (RSl (pm fU Jf) 5):=vF underlying23 (by kernel_rfl) (by decide) (of_decide_eq_true (by kernel_rfl)) XJ
theorem XM:gB prog 101 3 iG:=by
 intro H enc W base spare held fuel cs d ps h hw;obtain⟨hl,hf⟩:=qg underlying101 h hw;have hl':cs.length=3:=hl.trans (by kernel_rfl);clear hl
 match cs,hl' with
 | [c0,c1,c2],_=>
  obtain⟨n0,d0,p0,t0,w0⟩:=hf 0 _ rfl;have t0':DataW.trod enc prog W base spare held n0 9 (([c0,c1,c2].drop 0).take (prog.cellsOf 9))=some (d0,p0):=t0;rw[uA] at t0';have u0:DataW.trod enc prog W base spare held n0 9 [c0]=some (d0,p0):=t0';obtain⟨n1,d1,p1,t1,w1⟩:=hf 1 _ rfl;have t1':DataW.trod enc prog W base spare held n1 3 (([c0,c1,c2].drop 1).take (prog.cellsOf 3))=some (d1,p1):=t1;rw[gE] at t1';have u1:DataW.trod enc prog W base spare held n1 3 [c1]=some (d1,p1):=t1';obtain⟨n2,d2,p2,t2,w2⟩:=hf 2 _ rfl;have t2':DataW.trod enc prog W base spare held n2 3 (([c0,c1,c2].drop 2).take (prog.cellsOf 3))=some (d2,p2):=t2;rw[gE] at t2';have u2:DataW.trod enc prog W base spare held n2 3 [c2]=some (d2,p2):=t2';obtain⟨_,_,s0,_,fP,dX⟩:=vG underlying9 H enc W base spare held n0 _ _ _ u0 w0;obtain rfl:c0 = .string s0:=by simpa using dX
  obtain⟨_,x1,cU,wf1⟩:=jb underlying3 H enc W base spare held n1 _ _ _ u1 w1;obtain rfl:c1 = .int .i64 x1:=by simpa using cU
  obtain⟨_,x2,mD,wf2⟩:=jb underlying3 H enc W base spare held n2 _ _ _ u2 w2;obtain rfl:c2 = .int .i64 x2:=by simpa using mD
  exact⟨rfl,⟨s0.data.toList,x1,x2⟩,s0,rfl,fP,rfl⟩
theorem XN:gB prog 22 1 (RSl iG 3):=vF underlying22 (by kernel_rfl) (by decide) (of_decide_eq_true (by kernel_rfl)) XM
theorem XO:gB prog 3 1 jn:=λH enc W base spare held fuel cs d ps h hw=>by
 obtain⟨h1,x,h2,_⟩:=jb underlying3 H enc W base spare held fuel cs d ps h hw;exact⟨h1,x,h2⟩
theorem XP:gB prog 27 1 (RSl jn 1):=vF underlying27 (by kernel_rfl) (by decide) (of_decide_eq_true (by kernel_rfl)) XO
theorem M3:gB prog 29 9 (pm ed Np.jo):=by
 intro H enc W base spare held fuel cs d ps h hw;obtain⟨hl,hf⟩:=qg underlying29 h hw;have hl':cs.length=9:=hl.trans (by kernel_rfl);clear hl
 match cs,hl' with
 | [c0,c1,c2,c3,c4,c5,c6,c7,c8],_=>
  obtain⟨n0,d0,p0,t0,w0⟩:=hf 0 _ rfl;have t0':DataW.trod enc prog W base spare held n0 22 (([c0,c1,c2,c3,c4,c5,c6,c7,c8].drop 0).take (prog.cellsOf 22))=some (d0,p0):=t0;rw[Ru] at t0';have u0:DataW.trod enc prog W base spare held n0 22 [c0]=some (d0,p0):=t0';obtain⟨n1,d1,p1,t1,w1⟩:=hf 1 _ rfl;have t1':DataW.trod enc prog W base spare held n1 23 (([c0,c1,c2,c3,c4,c5,c6,c7,c8].drop 1).take (prog.cellsOf 23))=some (d1,p1):=t1;rw[Rs] at t1';have u1:DataW.trod enc prog W base spare held n1 23 [c1]=some (d1,p1):=t1';obtain⟨n2,d2,p2,t2,w2⟩:=hf 2 _ rfl;have t2':DataW.trod enc prog W base spare held n2 26 (([c0,c1,c2,c3,c4,c5,c6,c7,c8].drop 2).take (prog.cellsOf 26))=some (d2,p2):=t2;rw[Jw] at t2';have u2:DataW.trod enc prog W base spare held n2 26 [c2,c3,c4,c5]=some (d2,p2):=t2';obtain⟨n3,d3,p3,t3,w3⟩:=hf 3 _ rfl;have t3':DataW.trod enc prog W base spare held n3 27 (([c0,c1,c2,c3,c4,c5,c6,c7,c8].drop 6).take (prog.cellsOf 27))=some (d3,p3):=t3;rw[Rv] at t3';have u3:DataW.trod enc prog W base spare held n3 27 [c6]=some (d3,p3):=t3';obtain⟨n4,d4,p4,t4,w4⟩:=hf 4 _ rfl;have t4':DataW.trod enc prog W base spare held n4 3 (([c0,c1,c2,c3,c4,c5,c6,c7,c8].drop 7).take (prog.cellsOf 3))=some (d4,p4):=t4;rw[gE] at t4';have u4:DataW.trod enc prog W base spare held n4 3 [c7]=some (d4,p4):=t4';obtain⟨n5,d5,p5,t5,w5⟩:=hf 5 _ rfl;have t5':DataW.trod enc prog W base spare held n5 3 (([c0,c1,c2,c3,c4,c5,c6,c7,c8].drop 8).take (prog.cellsOf 3))=some (d5,p5):=t5;rw[gE] at t5';have u5:DataW.trod enc prog W base spare held n5 3 [c8]=some (d5,p5):=t5';obtain⟨_,x0,v0,dX,U2⟩:=XN H enc W base spare held n0 _ _ _ u0 w0;obtain rfl:c0=v0:=by simpa using dX
  obtain⟨_,x1,v1,cU,rA⟩:=XI H enc W base spare held n1 _ _ _ u1 w1;obtain rfl:c1=v1:=by simpa using cU
  obtain⟨_,x2,mD⟩:=M5 H enc W base spare held n2 _ _ _ u2 w2;obtain⟨_,x3,v3,rE,FP⟩:=XP H enc W base spare held n3 _ _ _ u3 w3;obtain rfl:c6=v3:=by simpa using rE
  obtain⟨_,x4,F4,wf4⟩:=jb underlying3 H enc W base spare held n4 _ _ _ u4 w4;obtain rfl:c7 = .int .i64 x4:=by simpa using F4
  obtain⟨_,x5,F5,wf5⟩:=jb underlying3 H enc W base spare held n5 _ _ _ u5 w5;obtain rfl:c8 = .int .i64 x5:=by simpa using F5
  obtain⟨sa,va,ha,hb,hc,hd⟩:=mD;exact⟨rfl,⟨x0,x1,x2,x3,x4,x5⟩,⟨_,_,sa,va,_,by rw[List.cons.injEq,List.cons.injEq,List.cons.injEq,List.cons.injEq] at hd;obtain⟨rfl,rfl,rfl,rfl,_⟩:=hd;rfl,ha,hb,U2,rA.both.1,hc,FP⟩,rA.both.2⟩
theorem AK{α:Type}{P:Program}{t:TypeId}{sz:Nat}{R:World->Nat->List Value->α->Prop}{fs:Array Field}(hs:P.underlying t=some (.struct fs))(hR:gB P t sz R){H:Type}{enc:TypeId×Value->H}{W:World}{r:Reach}{base b0:Nat}{spare:Nat->Bool}{held:Bool}{v:Value}{d:DataW H}{p:List MemPlace}
 (hv:Value.okWide P W r b0 t v) (h:DataW.Trod enc P W base spare held t v d p) (hw:∀ n∈d.weights P t,n<=reachBytes):∃ (cs:List Value) (x:α),v = .agg cs.toArray/\R W W.heap.size cs x:=by
 obtain⟨cs,rfl,_⟩:=okWide_struct hs hv;obtain⟨fuel,hf⟩:=h;obtain⟨_,x,hx⟩:=hR H enc W base spare held fuel _ d p hf hw;exact⟨_,x,by simp[Value.cells],hx⟩
theorem tT{H:Type}{P:Program}{ts:List TypeId}{ds:List (DataW H)}(h:(DataW.weightsEach P ts ds).all (·<=reachBytes)=true){j:Nat}{t:TypeId}{d:DataW H}(ht:ts[j]?=some t)(hd:ds[j]?=some d):∀ n∈d.weights P t,n<=reachBytes:=
 λn hn=>by simpa using List.all_eq_true.1 h n (DataW.weights_mem_each ht hd n hn)
def QO(_:World)(_:Nat)(e:List Value)(x:ByteArray×Int):Prop:=x.1.size<=140737488355328/\e = [.string x.1,.int .i64 x.2]
theorem M4:gB prog 31 2 QO:=by
 intro H enc W base spare held fuel cs d ps h hw;obtain⟨hl,hf⟩:=qg underlying31 h hw;have hl':cs.length=2:=hl.trans (by kernel_rfl);clear hl
 match cs,hl' with
 | [c0,c1],_=>
  obtain⟨n0,d0,p0,t0,w0⟩:=hf 0 _ rfl;have t0':DataW.trod enc prog W base spare held n0 9 (([c0,c1].drop 0).take (prog.cellsOf 9))=some (d0,p0):=t0;rw[uA] at t0';have u0:DataW.trod enc prog W base spare held n0 9 [c0]=some (d0,p0):=t0';obtain⟨n1,d1,p1,t1,w1⟩:=hf 1 _ rfl;have t1':DataW.trod enc prog W base spare held n1 3 (([c0,c1].drop 1).take (prog.cellsOf 3))=some (d1,p1):=t1;rw[gE] at t1';have u1:DataW.trod enc prog W base spare held n1 3 [c1]=some (d1,p1):=t1';obtain⟨_,_,s0,_,fP,dX⟩:=vG underlying9 H enc W base spare held n0 _ _ _ u0 w0;obtain rfl:c0 = .string s0:=by simpa using dX
  obtain⟨_,x1,cU,wf1⟩:=jb underlying3 H enc W base spare held n1 _ _ _ u1 w1;obtain rfl:c1 = .int .i64 x1:=by simpa using cU
  exact⟨rfl,⟨s0,x1⟩,fP,rfl⟩
end
end Go.Proofs.YtfnopgdcaanaiaaGreatDoor
