/- Parts of the proof. No condition. -/
import Derived.Test.YtfnopgdcaanaiaaGreatDoorV02
import Derived.Test.YtfnopgdcaanaiaaGreatDoorV03
set_option linter.all false
set_option maxRecDepth 100000
set_option maxHeartbeats 8000000
namespace Go.Proofs.YtfnopgdcaanaiaaGreatDoor
open Go.Proofs.Tryz
section
open Go.RowKit Go.Shelf
attribute [local go_sem] Oper.semAt_some
theorem Tryz.infoInt:(prog.info? 3).map (λi=>(i.zero,i.size,i.bytes))=some (some (.int .i64 0),1,8):=by kernel_rfl
def RR(b s l d f:Int)(k:Nat):Prop:=(1<=k->0<=d/\d<=1000)/\(2<=k->1<=s/\s<=10000000)/\(3<=k->d<=b/\b<=s - 1)/\(4<=k->1<=l/\l<=10000000)/\(5<=k->0<=f/\f<=100000)
theorem qW{b s l d f:Int}(h:¬ (0<=d/\d<=1000/\1<=s/\s<=10000000/\d<=b/\b<=s - 1/\1<=l/\l<=10000000/\0<=f/\f<=100000)):Np.fY b s l d f=1:=by
 unfold Np.fY;rw[Qc (show ¬ Np.wM b s l d f from h)]
theorem pX{b s l d f n:Int}(h:Np.fY b s l d f=n)(hn:n≠0):Np.times b s l d f = []:=by
 unfold Np.times;rw[Qc (by omega)]
def TmI(w:World)(lb:Nat)(pre:List Int)(S:Nat->Prop)(W:World):Prop:=
 ∃ v,(∀ k,S k↔(k=w.heap.size\/k=w.heap.size+1)\/k=lb\/v.ownBlock=some k)/\Boxed W w.heap.size 27 (.slice none 0 0)/\Boxed W (w.heap.size+1) 37 (.int .i64 0)/\Boxed W lb 27 v/\
   W.ownsRow (lb+1) 3 1 v pre.length (pre.map (Value.int .i64))/\pre.length<=400/\Below w.heap.size w W
def TmX(w:World)(xs:List Int)(c:Code)(_:List Int)(S:Nat->Prop)(W:World):Prop:=
 c = .ret/\(S w.heap.size/\S (w.heap.size+1))/\Boxed W w.heap.size 27 (.slice none 0 0)/\Boxed W (w.heap.size+1) 37 (.int .i64 2)/\400<xs.length/\Below w.heap.size w W
theorem Rk(w:World)(lb B:Nat)(hB:w.heap.size<=B):fm B (TmI w lb):=by
 rintro pre S W W' ⟨v,hS,h1,h2,h3,h4,h5,h6⟩ az;exact⟨v,hS,g9 h1 az ((hS _).2 (.inl (.inl rfl))),g9 h2 az ((hS _).2 (.inl (.inr rfl))),g9 h3 az ((hS _).2 (.inr (.inl rfl))),PY h4 az (λg hg=>(hS _).2 (.inr (.inr hg))),h5,th h6 az hB (bQ _)⟩
theorem ayK(w:World)(xs:List Int)(B:Nat)(hB:w.heap.size<=B)(c:Code):fm B (TmX w xs c):=by
 rintro pre S W W' ⟨hc,hS,h1,h2,h3,h4⟩ az;exact⟨hc,hS,g9 h1 az hS.1,g9 h2 az hS.2,h3,th h4 az hB (bQ _)⟩
theorem Cq(b s l d f:Int)(w:World) :
 Calls prog 39 #[.int .i64 b,.int .i64 s,.int .i64 l,.int .i64 d,.int .i64 f] w (xe iM 1 w (Np.times b s l d f) (Np.fY b s l d f)):=by
 obtain⟨r,hr⟩:=aJZ (wrap64 (s - 1));have i0:∀ w,(Instr.index 146 (.agg #[.int .i64 d,.int .i64 0,.int .i64 1000,.int .i64 s,.int .i64 1,.int .i64 10000000,.int .i64 b,.int .i64 d,.int .i64 r,.int .i64 l,.int .i64 1,.int .i64 10000000,.int .i64 f,.int .i64 0,.int .i64 100000]) (.int .i64 0)).run prog w = .ok (.agg #[.int .i64 d,.int .i64 0,.int .i64 1000]) w:=λ_=>by kernel_rfl
 have i1:∀ w,(Instr.index 146 (.agg #[.int .i64 d,.int .i64 0,.int .i64 1000,.int .i64 s,.int .i64 1,.int .i64 10000000,.int .i64 b,.int .i64 d,.int .i64 r,.int .i64 l,.int .i64 1,.int .i64 10000000,.int .i64 f,.int .i64 0,.int .i64 100000]) (.int .i64 1)).run prog w = .ok (.agg #[.int .i64 s,.int .i64 1,.int .i64 10000000]) w:=λ_=>by kernel_rfl
 have i2:∀ w,(Instr.index 146 (.agg #[.int .i64 d,.int .i64 0,.int .i64 1000,.int .i64 s,.int .i64 1,.int .i64 10000000,.int .i64 b,.int .i64 d,.int .i64 r,.int .i64 l,.int .i64 1,.int .i64 10000000,.int .i64 f,.int .i64 0,.int .i64 100000]) (.int .i64 2)).run prog w = .ok (.agg #[.int .i64 b,.int .i64 d,.int .i64 r]) w:=λ_=>by kernel_rfl
 have i3:∀ w,(Instr.index 146 (.agg #[.int .i64 d,.int .i64 0,.int .i64 1000,.int .i64 s,.int .i64 1,.int .i64 10000000,.int .i64 b,.int .i64 d,.int .i64 r,.int .i64 l,.int .i64 1,.int .i64 10000000,.int .i64 f,.int .i64 0,.int .i64 100000]) (.int .i64 3)).run prog w = .ok (.agg #[.int .i64 l,.int .i64 1,.int .i64 10000000]) w:=λ_=>by kernel_rfl
 have i4:∀ w,(Instr.index 146 (.agg #[.int .i64 d,.int .i64 0,.int .i64 1000,.int .i64 s,.int .i64 1,.int .i64 10000000,.int .i64 b,.int .i64 d,.int .i64 r,.int .i64 l,.int .i64 1,.int .i64 10000000,.int .i64 f,.int .i64 0,.int .i64 100000]) (.int .i64 4)).run prog w = .ok (.agg #[.int .i64 f,.int .i64 0,.int .i64 100000]) w:=λ_=>by kernel_rfl
 refine (callsIn_wide (n:=0)).1 ?_;refine callsIn_of_wp_marks func39 rfl trivial ?_ rfl;simp only[ntmps39,List.size_toArray,List.length_cons,List.length_nil,Nat.reduceAdd,Nat.reduceSub,Array.replicate_succ,Array.replicate_zero,List.push_toArray,List.append_toArray,List.nil_append,List.cons_append];gi_wp2_with fail;have HR:=jq hr;clear hr;have q0:Boxed (((w.alloc (.cells #[.slice none 0 0] 27)).alloc (.cells #[.int .i64 0] 37)).alloc (.cells #[.int .i64 d,.int .i64 0,.int .i64 1000,.int .i64 s,.int .i64 1,.int .i64 10000000,.int .i64 b,.int .i64 d,.int .i64 r,.int .i64 l,.int .i64 1,.int .i64 10000000,.int .i64 f,.int .i64 0,.int .i64 100000] 146)) w.heap.size 27 (.slice none 0 0):=((Boxed.new w _ _).alloc _).alloc _;have q1:Boxed (((w.alloc (.cells #[.slice none 0 0] 27)).alloc (.cells #[.int .i64 0] 37)).alloc (.cells #[.int .i64 d,.int .i64 0,.int .i64 1000,.int .i64 s,.int .i64 1,.int .i64 10000000,.int .i64 b,.int .i64 d,.int .i64 r,.int .i64 l,.int .i64 1,.int .i64 10000000,.int .i64 f,.int .i64 0,.int .i64 100000] 146)) (w.heap.size+1) 37 (.int .i64 0):=by
  have:=(Boxed.new (w.alloc (.cells #[.slice none 0 0] 27)) 37 (.int .i64 0)).alloc (.cells #[.int .i64 d,.int .i64 0,.int .i64 1000,.int .i64 s,.int .i64 1,.int .i64 10000000,.int .i64 b,.int .i64 d,.int .i64 r,.int .i64 l,.int .i64 1,.int .i64 10000000,.int .i64 f,.int .i64 0,.int .i64 100000] 146)
  simpa only[World.size_alloc] using this
 have vC:Below w.heap.size w (((w.alloc (.cells #[.slice none 0 0] 27)).alloc (.cells #[.int .i64 0] 37)).alloc (.cells #[.int .i64 d,.int .i64 0,.int .i64 1000,.int .i64 s,.int .i64 1,.int .i64 10000000,.int .i64 b,.int .i64 d,.int .i64 r,.int .i64 l,.int .i64 1,.int .i64 10000000,.int .i64 f,.int .i64 0,.int .i64 100000] 146)):=(((vQ _ w).alloc (bQ _) _).alloc (by simp) _).alloc (by simp;omega) _;have tS:w.heap.size+2<(((w.alloc (.cells #[.slice none 0 0] 27)).alloc (.cells #[.int .i64 0] 37)).alloc (.cells #[.int .i64 d,.int .i64 0,.int .i64 1000,.int .i64 s,.int .i64 1,.int .i64 10000000,.int .i64 b,.int .i64 d,.int .i64 r,.int .i64 l,.int .i64 1,.int .i64 10000000,.int .i64 f,.int .i64 0,.int .i64 100000] 146)).heap.size:=by simp <;> omega
 generalize ((w.alloc (.cells #[.slice none 0 0] 27)).alloc (.cells #[.int .i64 0] 37)).alloc (.cells #[.int .i64 d,.int .i64 0,.int .i64 1000,.int .i64 s,.int .i64 1,.int .i64 10000000,.int .i64 b,.int .i64 d,.int .i64 r,.int .i64 l,.int .i64 1,.int .i64 10000000,.int .i64 f,.int .i64 0,.int .i64 100000] 146)=W0 at q0 q1 vC tS |-;have HW:=jq vC;clear vC;gi_loopw [34] (λi wr=>∃ k:Nat,k<=5/\i = .int .i64 k/\Below W0.heap.size W0 wr/\Hid (RR b s l d f k)) (λi _=>5 - (intOf i).toNat)
 case atStart=>exact⟨0,by omega,rfl,vQ _ _,jq ⟨by omega,by omega,by omega,by omega,by omega⟩⟩
 case round=>
  obtain⟨k,hk,rfl,bR,HP⟩:=hrel;have HB:=jq bR;have lX:=bR.size;clear bR;rcases (by omega:k=0\/k=1\/k=2\/k=3\/k=4\/k=5) with rfl | rfl | rfl | rfl | rfl | rfl
  ·
   by_cases hd:0<=d/\d<=1000
   ·gi_wp2_with (refine⟨trivial,rfl,?_⟩;gi_at_call 79;refine (callsIn_wide.2 (mw _ _ _ _)).mono ?_;rintro e w' ⟨rfl,hb⟩);go_roundw
    case rel=>exact⟨1,by omega,rfl,HB.out.trans (((vQ _ wr).alloc (bQ _) _).trans (hb.mono (by simp)) |>.mono lX),jq ⟨λ_=>hd,by omega,by omega,by omega,by omega⟩⟩
    case measure=>simp[intOf] <;> omega
   ·have hd':(decide (0<=d)&&decide (d<=1000))=false:=by simp;omega
    gi_wp2_with (refine⟨trivial,rfl,?_⟩;gi_at_call 79;refine (callsIn_wide.2 (mw _ _ _ _)).mono ?_;rintro e w' ⟨rfl,hb⟩;have cK:=bT (aMY q0 HB.out) (((vQ wr.heap.size wr).alloc (bQ _) _).trans (hb.mono (by simp))) (by omega);have bM:=bT (aMY q1 HB.out) (((vQ wr.heap.size wr).alloc (bQ _) _).trans (hb.mono (by simp))) (by omega);have y0:=cK.cell;have y1:=cK.frozen;have y2:=bM.cell;have y3:=bM.frozen)
    all_goals first
     | (exfalso;omega)
     | (have z0:=(cn (cK.set (.slice none 0 0)) (p:=⟨w.heap.size+1,0,none⟩) (by simp) (.int .i64 1)).cell
        have z1:=((cn bM (p:=⟨w.heap.size,0,none⟩) (by simp) (.slice none 0 0)).set (.int .i64 1)).cell;refine nl (v:=.tuple #[.slice none 0 0,.int .i64 1]) (by simp[results,results39,go_sem,z0,z1]) ?_;refine lv ?_ (pX (qW (by omega)) (by omega)) (qW (by omega));refine Below.setCell (Below.setCell ?_ (by simp) _) (by simp <;> omega) _;exact HW.out.trans ((HB.out.trans (((vQ _ wr).alloc (bQ _) _).trans (hb.mono (by simp)) |>.mono lX)).aKZ))
  ·
   by_cases hd:1<=s/\s<=10000000
   ·gi_wp2_with (refine⟨trivial,rfl,?_⟩;gi_at_call 79;refine (callsIn_wide.2 (mw _ _ _ _)).mono ?_;rintro e w' ⟨rfl,hb⟩);go_roundw
    case rel=>exact⟨2,by omega,rfl,HB.out.trans (((vQ _ wr).alloc (bQ _) _).trans (hb.mono (by simp)) |>.mono lX),jq ⟨λ_=>HP.out.1 (by omega),λ_=>hd,by omega,by omega,by omega⟩⟩
    case measure=>simp[intOf] <;> omega
   ·have hd':(decide (1<=s)&&decide (s<=10000000))=false:=by simp;omega
    gi_wp2_with (refine⟨trivial,rfl,?_⟩;gi_at_call 79;refine (callsIn_wide.2 (mw _ _ _ _)).mono ?_;rintro e w' ⟨rfl,hb⟩;have cK:=bT (aMY q0 HB.out) (((vQ wr.heap.size wr).alloc (bQ _) _).trans (hb.mono (by simp))) (by omega);have bM:=bT (aMY q1 HB.out) (((vQ wr.heap.size wr).alloc (bQ _) _).trans (hb.mono (by simp))) (by omega);have y0:=cK.cell;have y1:=cK.frozen;have y2:=bM.cell;have y3:=bM.frozen)
    all_goals first
     | (exfalso;omega)
     | (have z0:=(cn (cK.set (.slice none 0 0)) (p:=⟨w.heap.size+1,0,none⟩) (by simp) (.int .i64 1)).cell
        have z1:=((cn bM (p:=⟨w.heap.size,0,none⟩) (by simp) (.slice none 0 0)).set (.int .i64 1)).cell;refine nl (v:=.tuple #[.slice none 0 0,.int .i64 1]) (by simp[results,results39,go_sem,z0,z1]) ?_;refine lv ?_ (pX (qW (by omega)) (by omega)) (qW (by omega));refine Below.setCell (Below.setCell ?_ (by simp) _) (by simp <;> omega) _;exact HW.out.trans ((HB.out.trans (((vQ _ wr).alloc (bQ _) _).trans (hb.mono (by simp)) |>.mono lX)).aKZ))
  ·
   have cJ:=HP.out.2.1 (by omega);have I5:r=s - 1:=by rw[<-HR.out];exact IntWalk.wrap64_in _ ⟨by omega,by omega⟩
   subst I5;by_cases hd:d<=b/\b<=s - 1
   ·gi_wp2_with (refine⟨trivial,rfl,?_⟩;gi_at_call 79;refine (callsIn_wide.2 (mw _ _ _ _)).mono ?_;rintro e w' ⟨rfl,hb⟩);go_roundw
    case rel=>exact⟨3,by omega,rfl,HB.out.trans (((vQ _ wr).alloc (bQ _) _).trans (hb.mono (by simp)) |>.mono lX),jq ⟨λ_=>HP.out.1 (by omega),λ_=>HP.out.2.1 (by omega),λ_=>hd,by omega,by omega⟩⟩
    case measure=>simp[intOf] <;> omega
   ·have hd':(decide (d<=b)&&decide (b<=s - 1))=false:=by simp;omega
    gi_wp2_with (refine⟨trivial,rfl,?_⟩;gi_at_call 79;refine (callsIn_wide.2 (mw _ _ _ _)).mono ?_;rintro e w' ⟨rfl,hb⟩;have cK:=bT (aMY q0 HB.out) (((vQ wr.heap.size wr).alloc (bQ _) _).trans (hb.mono (by simp))) (by omega);have bM:=bT (aMY q1 HB.out) (((vQ wr.heap.size wr).alloc (bQ _) _).trans (hb.mono (by simp))) (by omega);have y0:=cK.cell;have y1:=cK.frozen;have y2:=bM.cell;have y3:=bM.frozen)
    all_goals first
     | (exfalso;omega)
     | (have z0:=(cn (cK.set (.slice none 0 0)) (p:=⟨w.heap.size+1,0,none⟩) (by simp) (.int .i64 1)).cell
        have z1:=((cn bM (p:=⟨w.heap.size,0,none⟩) (by simp) (.slice none 0 0)).set (.int .i64 1)).cell;refine nl (v:=.tuple #[.slice none 0 0,.int .i64 1]) (by simp[results,results39,go_sem,z0,z1]) ?_;refine lv ?_ (pX (qW (by omega)) (by omega)) (qW (by omega));refine Below.setCell (Below.setCell ?_ (by simp) _) (by simp <;> omega) _;exact HW.out.trans ((HB.out.trans (((vQ _ wr).alloc (bQ _) _).trans (hb.mono (by simp)) |>.mono lX)).aKZ))
  ·
   by_cases hd:1<=l/\l<=10000000
   ·gi_wp2_with (refine⟨trivial,rfl,?_⟩;gi_at_call 79;refine (callsIn_wide.2 (mw _ _ _ _)).mono ?_;rintro e w' ⟨rfl,hb⟩);go_roundw
    case rel=>exact⟨4,by omega,rfl,HB.out.trans (((vQ _ wr).alloc (bQ _) _).trans (hb.mono (by simp)) |>.mono lX),jq ⟨λ_=>HP.out.1 (by omega),λ_=>HP.out.2.1 (by omega),λ_=>HP.out.2.2.1 (by omega),λ_=>hd,by omega⟩⟩
    case measure=>simp[intOf] <;> omega
   ·have hd':(decide (1<=l)&&decide (l<=10000000))=false:=by simp;omega
    gi_wp2_with (refine⟨trivial,rfl,?_⟩;gi_at_call 79;refine (callsIn_wide.2 (mw _ _ _ _)).mono ?_;rintro e w' ⟨rfl,hb⟩;have cK:=bT (aMY q0 HB.out) (((vQ wr.heap.size wr).alloc (bQ _) _).trans (hb.mono (by simp))) (by omega);have bM:=bT (aMY q1 HB.out) (((vQ wr.heap.size wr).alloc (bQ _) _).trans (hb.mono (by simp))) (by omega);have y0:=cK.cell;have y1:=cK.frozen;have y2:=bM.cell;have y3:=bM.frozen)
    all_goals first
     | (exfalso;omega)
     | (have z0:=(cn (cK.set (.slice none 0 0)) (p:=⟨w.heap.size+1,0,none⟩) (by simp) (.int .i64 1)).cell
        have z1:=((cn bM (p:=⟨w.heap.size,0,none⟩) (by simp) (.slice none 0 0)).set (.int .i64 1)).cell;refine nl (v:=.tuple #[.slice none 0 0,.int .i64 1]) (by simp[results,results39,go_sem,z0,z1]) ?_;refine lv ?_ (pX (qW (by omega)) (by omega)) (qW (by omega));refine Below.setCell (Below.setCell ?_ (by simp) _) (by simp <;> omega) _;exact HW.out.trans ((HB.out.trans (((vQ _ wr).alloc (bQ _) _).trans (hb.mono (by simp)) |>.mono lX)).aKZ))
  ·
   by_cases hd:0<=f/\f<=100000
   ·gi_wp2_with (refine⟨trivial,rfl,?_⟩;gi_at_call 79;refine (callsIn_wide.2 (mw _ _ _ _)).mono ?_;rintro e w' ⟨rfl,hb⟩);go_roundw
    case rel=>exact⟨5,by omega,rfl,HB.out.trans (((vQ _ wr).alloc (bQ _) _).trans (hb.mono (by simp)) |>.mono lX),jq ⟨λ_=>HP.out.1 (by omega),λ_=>HP.out.2.1 (by omega),λ_=>HP.out.2.2.1 (by omega),λ_=>HP.out.2.2.2.1 (by omega),λ_=>hd⟩⟩
    case measure=>simp[intOf] <;> omega
   ·have hd':(decide (0<=f)&&decide (f<=100000))=false:=by simp;omega
    gi_wp2_with (refine⟨trivial,rfl,?_⟩;gi_at_call 79;refine (callsIn_wide.2 (mw _ _ _ _)).mono ?_;rintro e w' ⟨rfl,hb⟩;have cK:=bT (aMY q0 HB.out) (((vQ wr.heap.size wr).alloc (bQ _) _).trans (hb.mono (by simp))) (by omega);have bM:=bT (aMY q1 HB.out) (((vQ wr.heap.size wr).alloc (bQ _) _).trans (hb.mono (by simp))) (by omega);have y0:=cK.cell;have y1:=cK.frozen;have y2:=bM.cell;have y3:=bM.frozen)
    all_goals first
     | (exfalso;omega)
     | (have z0:=(cn (cK.set (.slice none 0 0)) (p:=⟨w.heap.size+1,0,none⟩) (by simp) (.int .i64 1)).cell
        have z1:=((cn bM (p:=⟨w.heap.size,0,none⟩) (by simp) (.slice none 0 0)).set (.int .i64 1)).cell;refine nl (v:=.tuple #[.slice none 0 0,.int .i64 1]) (by simp[results,results39,go_sem,z0,z1]) ?_;refine lv ?_ (pX (qW (by omega)) (by omega)) (qW (by omega));refine Below.setCell (Below.setCell ?_ (by simp) _) (by simp <;> omega) _;exact HW.out.trans ((HB.out.trans (((vQ _ wr).alloc (bQ _) _).trans (hb.mono (by simp)) |>.mono lX)).aKZ))
  ·obtain⟨⟨eU,fS⟩,⟨bh,cJ⟩,⟨aq,ac⟩,⟨bC,dJ⟩,⟨oH,D4⟩⟩:=(⟨HP.out.1 (by omega),HP.out.2.1 (by omega),HP.out.2.2.1 (by omega),HP.out.2.2.2.1 (by omega),HP.out.2.2.2.2 (by omega)⟩:(0<=d/\d<=1000)/\(1<=s/\s<=10000000)/\(d<=b/\b<=s - 1)/\(1<=l/\l<=10000000)/\(0<=f/\f<=100000));have tu:Np.wM b s l d f:=⟨eU,fS,bh,cJ,aq,ac,bC,dJ,oH,D4⟩;have HA:=jq tu;have p0:=aMY q0 HB.out;have p1:=aMY q1 HB.out;have aB:Below w.heap.size w wr:=HW.out.trans (HB.out.aKZ);have al:w.heap.size+2<wr.heap.size:=by omega
   have aO:=jq aB;clear tu q0 q1 aB i0 i1 i2 i3 i4;have y0:=p0.cell;have y1:=p0.frozen;have y2:=p1.cell;have y3:=p1.frozen;by_cases hm:f<1
   all_goals
    gi_wp2_with fail
    ·have z0:=(cn (p0.set (.slice none 0 0)) (p:=⟨w.heap.size+1,0,none⟩) (by simp) (.int .i64 32)).cell;have z1:=((cn p1 (p:=⟨w.heap.size,0,none⟩) (by simp) (.slice none 0 0)).set (.int .i64 32)).cell;refine nl (v:=.tuple #[.slice none 0 0,.int .i64 32]) (by simp[results,results39,go_sem,z0,z1]) ?_;have he:Np.fY b s l d f=32:=by unfold Np.fY;rw[Qb HA.out,Qb (by unfold Np.wN;omega)]
     exact lv (Below.setCell (Below.setCell aO.out (by simp) _) (by simp <;> omega) _) (pX he (by omega)) he
    ·have tX:Np.wN l d f=l - max f 1 - 3 * d+2:=rfl;obtain⟨st,hq,BR,Yl,O0⟩:∃ st,l - max f 1 - 3 * d+2=st/\Np.wN l d f=st/\1<=st/\st<=20000000:=⟨_,rfl,tX,by omega,by omega⟩;rw[hq];have ck:=jq BR;clear hq tX BR;have b2:=Boxed.new wr 27 (.slice none 0 0);have bR:Below w.heap.size w (wr.alloc (.cells #[.slice none 0 0] 27)):=aO.out.alloc (by omega) _;refine Cx (n₀:=w.heap.size) (w0:=w) (first:=#[.agg #[.int .i64 b,.int .i64 s,.int .i64 st]]) (captured:=#[]) (gf:=83) rfl (enters_of func83 (by kernel_rfl) rfl)
      (mk:=λy=>#[.agg #[.int .i64 b,.int .i64 s,.int .i64 st],y]) (λ_=>rfl) (ayZ b s st Yl O0 (by omega) cJ (by omega) _ w) bR (by simp;omega) (λ_=>rfl) (TmI w wr.heap.size) (TmX w (Np.fZ b s st))
      (Rk _ _ _ (by simp;omega)) (λc=>ayK _ _ _ (by simp;omega) c)
      (λk=>(k=w.heap.size\/k=w.heap.size+1)\/k=wr.heap.size\/(Value.slice none 0 0).ownBlock=some k) (by intro k h;simp[Value.ownBlock] at h;omega) (by intro k h;simp[Value.ownBlock] at h;simp;omega)
      ⟨_,λ_=>Iff.rfl,p0.alloc _,p1.alloc _,b2,World.ownsRow_nil _ _ _ _,by simp,bR⟩ ?round ?done ?stop
     case round=>
      rintro l0 pre x S W bg hI gh;gi_wp2;refine⟨S,RdStep.refl _ _,λk e=>.inl e,gh,?_⟩;intro lp W₂ az;obtain⟨v,hS,c0,c1,c2,hrow,Wq,hB⟩:=Rk w _ _ (by simp;omega) pre S W W₂ hI az;obtain⟨A,cap,rfl⟩:=sF hrow;have c0c:=c0.cell;have c1c:=c1.cell;have c2c:=c2.cell;have c0f:=c0.frozen;have c1f:=c1.frozen;have c2f:=c2.frozen;have fu:∀ k,S k->k<W₂.heap.size:=λk e=>lQ (gh k e) az.size;have sw:pre.length+1<=(Np.fZ b s st).length:=by have:=bg.length_le;simpa using this
      have HI:=jq hI;have HS:=jq hS;have aSK:=c2.lt;have CH:=jq c0;have aK:=jq c1;have bl:=jq c2;have mY:=jq hrow;have HB:=jq hB;have oe:=jq bg;obtain⟨i0,hi,di,ba,aN⟩:=info_parts Tryz.infoInt;clear hI hS bg az c0 c1 c2 hrow hB;by_cases h4:pre.length=400
      ·have h4':((pre.length:Int) == 400)=true:=by simp[h4]
       have H4:=jq h4;clear h4;gi_wp2_with fail;refine⟨S,?_,λk e=>.inl e,λk e=>?_,?_⟩
       ·exact ((RdStep.refl S W₂).setCell (p:=⟨w.heap.size,0,none⟩) (.inl ((HS.out _).2 (.inl (.inl rfl)))) _).setCell (p:=⟨w.heap.size+1,0,none⟩) (.inl ((HS.out _).2 (.inl (.inr rfl)))) _
       ·have:=fu k e;simpa [World.setCell] using this
       ·exact⟨rfl,⟨(HS.out _).2 (.inl (.inl rfl)),(HS.out _).2 (.inl (.inr rfl))⟩,cn (CH.out.set _) (p:=⟨w.heap.size+1,0,none⟩) (by simp) _,(cn aK.out (p:=⟨w.heap.size,0,none⟩) (by simp) _).set _,by have:=H4.out;omega,(HB.out.setCell (p:=⟨w.heap.size,0,none⟩) (by simp) _).setCell (p:=⟨w.heap.size+1,0,none⟩) (by simp) _⟩
      ·have h4':((pre.length:Int) == 400)=false:=by simp;omega
       gi_wp2_with (gi_at_builtin;refine RE _ rfl _ _ 27 rfl (wr.heap.size+1) 3 i0 (.int .i64 0) 1 8 underlying27 hi di ba aN rfl (by decide) _ _ _ rfl (mY.out.alloc _) ⟨W₂.heap.size,0,none⟩ 1 1 [.int .i64 x] rfl rfl (cell_one_new _ _ _) (by simp[Value.oneCell']) (by unfold maxLen;omega) (by omega) (by simp;omega) ?_;intro v' w1 kM oJ hat;obtain⟨g',cap',rfl⟩:=ownsRow_succ kM;obtain⟨BW,sj,I5,aF,aV,lz,hold⟩:=UI (F:=λk=>k=w.heap.size\/k=w.heap.size+1) HS.out (by intro i h;omega) bl.out mY.out kM oJ hat;have be:=BW.cell;have oH:=BW.frozen);refine⟨_,aF,aV,lz,_,λ_=>Iff.rfl,(hold _ (by omega)).trans CH.out,(hold _ (by omega)).trans aK.out,sj,by simpa using I5,by simp;omega,?_⟩;exact HB.out.trans (aF.below (by have:=HB.out.size;omega) (λk e=>by have:=(HS.out k).1 e;rcases this with (h | h) | h | h;omega;omega;omega;exact yQ (by omega) (EI mY.out k h).1))
     case done=>
      rintro D S W hD ft aV ⟨v,hS,c0,c1,c2,hrow,Wq,hB⟩ hK;have c0c:=c0.cell;have c1c:=c1.cell;have c2c:=c2.cell;have c0f:=c0.frozen;have c1f:=c1.frozen;have rB:w.heap.size≠D:=λe=>ft ((hS _).2 (.inl (.inl e.symm)));have rC:w.heap.size+1≠D:=λe=>ft ((hS _).2 (.inl (.inr e.symm)));obtain⟨A,cap,rfl⟩:=sF hrow;have mY:=jq hrow;have HS:=jq hS;clear hrow hS aV;gi_wp2;have he:Np.fY b s l d f=0:=by unfold Np.fY;rw[Qb HA.out,ck.out,Qc (by omega),Qc (by omega)]
      have ht:Np.times b s l d f=Np.fZ b s st:=by unfold Np.times;rw[Qb he,ck.out]
      have hK':((W.setCell ⟨w.heap.size,0,none⟩ (.slice A (Np.fZ b s st).length cap)).setCell ⟨w.heap.size+1,0,none⟩ (.int .i64 0)).heap[D]?=some (.deferred (some [])):=(wQ _ _ _ _ (by simpa using rC.symm)).trans ((wQ _ _ _ _ (by simpa using rB.symm)).trans hK);have z0:=(pt (cn (c0.set (.slice A (Np.fZ b s st).length cap)) (p:=⟨w.heap.size+1,0,none⟩) (by simp) (.int .i64 0)) rB (.deferred none)).cell;have z1:=(pt ((cn c1 (p:=⟨w.heap.size,0,none⟩) (by simp) (.slice A (Np.fZ b s st).length cap)).set (.int .i64 0)) rC (.deferred none)).cell;refine oC hK' (v:=.tuple #[.slice A (Np.fZ b s st).length cap,.int .i64 0]) (by simp[results,results39,go_sem,z0,z1]) ?_;have I7:(((W.setCell ⟨w.heap.size,0,none⟩ (.slice A (Np.fZ b s st).length cap)).setCell ⟨w.heap.size+1,0,none⟩ (.int .i64 0)).putObj D (.deferred none)).ownsRow (wr.heap.size+1) 3 1 (.slice A (Np.fZ b s st).length cap) (Np.fZ b s st).length ((Np.fZ b s st).flatMap λx=>[.int .i64 x]):=by
       rw[<-EC];refine cX mY.out (λg hg=>?_);have oI:=(EI mY.out g hg).1;rw[zQ (λe=>ft (by rw[<-e];exact (HS.out _).2 (.inr (.inr hg)))),wQ _ _ _ _ (by simp;omega),wQ _ _ _ _ (by simp;omega)]
      refine⟨_,by rw[he],?_,?_⟩
      ·rw[ht];exact Cj (R:=iM) _ (by simp) I7 (by omega) (by simp[iM])
      ·exact oz ((hB.setCell (p:=⟨w.heap.size,0,none⟩) (by simp) _).setCell (p:=⟨w.heap.size+1,0,none⟩) (by simp) _) (by simp at hD;omega) _
     case stop=>
      rintro D c pre S W hD ft aV iV ⟨rfl,hS,c0,c1,h4,hB⟩ hK;have rB:w.heap.size≠D:=λe=>ft (by rw[<-e];exact hS.1);have rC:w.heap.size+1≠D:=λe=>ft (by rw[<-e];exact hS.2);gi_wp2;have z0:=(pt c0 rB (.deferred none)).cell;have z1:=(pt c1 rC (.deferred none)).cell;have he:Np.fY b s l d f=2:=by unfold Np.fY;rw[Qb HA.out,ck.out,Qc (by omega),Qb h4]
      refine oC hK (v:=.tuple #[.slice none 0 0,.int .i64 2]) (by simp[results,results39,go_sem,z0,z1]) ?_;exact lv (oz hB (by simp at hD;omega) _) (pX he (by omega)) he
end
section
open Go.RowKit Go.Shelf
def ei(base:Nat)(w:World)(v:Value)(xs:List Int):Prop:=w.ownsRow base 3 1 v xs.length (xs.map (Value.int .i64))
theorem ei.alloc{base:Nat}{w:World}{v:Value}{xs:List Int}(h:ei base w v xs)(o:Obj):ei base (w.alloc o) v xs:=World.ownsRow.alloc h o
theorem ei.keep{base:Nat}{w w':World}{v:Value}{xs:List Int}(h:ei base w v xs)(hb:Below w.heap.size w w'):ei base w' v xs:=cX h (λg hg=>hb.block g (h.lt g hg).2)
theorem ei.nil(base:Nat)(w:World):ei base w (.slice none 0 0) []:=⟨by simp,.inl ⟨rfl,rfl⟩⟩
theorem ei.weak{base base':Nat}{w:World}{v:Value}{xs:List Int}(h:ei base w v xs)(hb:base'<=base):ei base' w v xs:=by
 refine⟨h.1,h.2.imp id ?_⟩;rintro⟨g,cap,cur,h1,h2,h3⟩;exact⟨g,cap,cur,h1,yQ hb h2,h3⟩
theorem ei.form{base:Nat}{w:World}{v:Value}{xs:List Int}(h:ei base w v xs):∃ A c,v = .slice A xs.length c:=sF h
theorem ei.at{base:Nat}{w:World}{A:Option Addr}{n c:Nat}{xs:List Int}(h:ei base w (.slice A n c) xs){i:Nat}{x:Int}(hx:xs[i]?=some x):∃ g,A=some ⟨g,0,none⟩/\base<=g/\g<w.heap.size/\w.cell? ⟨g,i,none⟩=some (.int .i64 x):=by
 have h':=h;have aa:=(cQ.1 hx).1;rcases h'.2 with ⟨h1,h0⟩ | ⟨g,cap,cur,h1,hb,hg,lA,_⟩
 ·omega
 ·simp only[Value.slice.injEq] at h1;obtain⟨rfl,_,rfl⟩:=h1;refine⟨g,rfl,hb,(eQ.1 hg).1,?_⟩;have h6:=h.cells (g:=g) rfl i (.int .i64 x) (by rw[List.getElem?_map,hx];rfl);have mE:(⟨g,0,none⟩:Addr).add i=⟨g,i,none⟩:=by unfold Addr.add;split <;> simp_all
  rw[mE] at h6;exact h6
section
variable {ops:Array Oper} {rest:List Oper} {o:Oper} {a:Act} {Q:Exit->Act->World->Prop}
theorem aEZ(w:World)(go:o.guard=none)(s x:Operand)(ho:o.op = .call { callee:=.builtin .append,args:=#[s,x],argTypes:=#[27,27] })
 (base:Nat) (v:Value) (xs:List Int) (hs:a.eval s=v) (hown:ei base w v xs) (blk:Nat) (f u:Int) (hx:a.eval x = .slice (some ⟨blk,0,none⟩) 2 2) (hc:w.cell? ⟨blk,0,none⟩=some (.int .i64 f)) (be:w.cell? ⟨blk,1,none⟩=some (.int .i64 u)) (hlen:xs.length<=100000) (dw:base<=w.heap.size)
 (h:∀ v' w',ei base w' v' (xs ++ [f,u])->Below base w w'->wpList prog ops Q rest (a.put o.dst v') w'):wpList prog ops Q (o::rest) a w:=by
 obtain⟨i0,hi,di,ba,aN⟩:=info_parts Tryz.infoInt;refine wpList_append_own_at w go s x 27 ho base 3 i0 (.int .i64 0) 1 8 underlying27 hi di ba aN rfl (by decide) v xs.length (xs.map (Value.int .i64)) hs hown ⟨blk,0,none⟩ 2 2 [.int .i64 f,.int .i64 u] hx rfl ?_ (by simp[Value.oneCell']) (by unfold maxLen;omega) (by omega) dw ?_
 ·intro j y hj
  match j,hj with
  | 0,hj=>simp at hj;subst hj;simpa [Addr.add] using hc
  | 1,hj=>simp at hj;subst hj;simpa [Addr.add] using be
  | j+2,hj=>simp at hj
 ·intro v' w' ho' hg _ _;refine h v' w' ?_ ((vQ _ _).grown hg dw (λk hk=>(hown.lt k hk).1));have e:(xs ++ [f,u]).length=xs.length+2:=by simp
  unfold ei;rw[e,List.map_append];exact ho'
theorem aEQ(w:World)(go:o.guard=none)(s x:Operand)(ho:o.op = .call { callee:=.builtin .append,args:=#[s,x],argTypes:=#[27,27] })
 (base:Nat) (v:Value) (xs:List Int) (hs:a.eval s=v) (hown:ei base w v xs) (blk:Nat) (f:Int) (hx:a.eval x = .slice (some ⟨blk,0,none⟩) 1 1) (hc:w.cell? ⟨blk,0,none⟩=some (.int .i64 f)) (hlen:xs.length<=100000) (dw:base<=w.heap.size)
 (h:∀ v' w',ei base w' v' (xs ++ [f])->Below base w w'->wpList prog ops Q rest (a.put o.dst v') w'):wpList prog ops Q (o::rest) a w:=by
 obtain⟨i0,hi,di,ba,aN⟩:=info_parts Tryz.infoInt;refine wpList_append_own_at w go s x 27 ho base 3 i0 (.int .i64 0) 1 8 underlying27 hi di ba aN rfl (by decide) v xs.length (xs.map (Value.int .i64)) hs hown ⟨blk,0,none⟩ 1 1 [.int .i64 f] hx rfl ?_ (by simp[Value.oneCell']) (by unfold maxLen;omega) (by omega) dw ?_
 ·intro j y hj
  match j,hj with
  | 0,hj=>simp at hj;subst hj;simpa [Addr.add] using hc
  | j+1,hj=>simp at hj
 ·intro v' w' ho' hg _ _;refine h v' w' ?_ ((vQ _ _).grown hg dw (λk hk=>(hown.lt k hk).1));have e:(xs ++ [f]).length=xs.length+1:=by simp
  unfold ei;rw[e,List.map_append];exact ho'
end
theorem ei.slr{base:Nat}{w:World}{v:Value}{xs:List Int}(h:ei base w v xs)(hl:xs.length<=140737488355328):SlR iM 1 w w.heap.size v xs:=by
 refine Cj (sz:=1) (e:=3) (base:=base) (λx=>[.int .i64 x]) (λ_ _=>rfl) ?_ hl (λx hx=>rfl)
 have:w.ownsRow base 3 1 v xs.length (xs.map (Value.int .i64)):=h
 rwa [EC] at this
end
section
open Go.RowKit Go.Shelf
attribute [local go_sem] Oper.semAt_some
theorem anK(b s l d f:Int)(w:World) :
 Calls prog 40 #[.int .i64 b,.int .i64 s,.int .i64 l,.int .i64 d,.int .i64 f] w (xe iM 1 w (Np.times b s l d f) (Np.fY b s l d f)):=by
 by_cases tu:Np.wM b s l d f
 ·have HA:=jq tu;obtain⟨eU,fS,bh,cJ,aq,ac,bC,dJ,oH,D4⟩:=tu;have d1:decide (d<0)=false:=aKX;have d2:decide (1000<d)=false:=aKX;have d3:decide (b<d)=false:=aKX;have d4:decide (s<=b)=false:=aKX;have d5:decide (10000000<s)=false:=aKX;have d6:decide (l<1)=false:=aKX;have d7:decide (10000000<l)=false:=aKX;have d8:decide (f<0)=false:=aKX;have d9:decide (100000<f)=false:=aKX;obtain⟨st,az⟩:=aJZ (Np.wN l d f);have OZ:st=l - max f 1 - 3 * d+2:=az.symm;have ck:=jq az;clear az;have hq:l - max f 1 - 3 * d+2=st:=OZ.symm
  all_goals
   clear OZ;by_cases XL:st<1
   ·have HE:Hid (Np.fY b s l d f=32):=jq (by unfold Np.fY;rw[Qb HA.out,ck.out,Qb XL]);go_enter func40,ntmps40;go_wp2_with fail
    ·go_ret2;exact lv (vQ _ _) (pX HE.out (by omega)) HE.out
    all_goals (exfalso;omega)
   ·have O0:st<=20000000:=by omega
    have BR:1<=st:=by omega
    go_enter func40,ntmps40;go_wp2_with fail
    try rw[hq]
    clear d1 d2 d3 d4 d5 d6 d7 d8 d9;go_loopw [13,14] (λvo vt wr=>∃ j:Nat,vt = .int .i64 (b+j * st)/\j<=401/\Hid (j<=(Np.fZ b s st).length)/\Hid (ei w.heap.size wr vo (km b st j))/\Hid (Below w.heap.size w wr)) (λ_ vt _=>(s - intOf vt).toNat)
    case atStart=>exact⟨0,by simp,by omega,jq (jQ _),jq (ei.nil _ _),jq (vQ _ _)⟩
    case round=>
     obtain⟨j,rfl,hj,HJ,HO,HB⟩:=hrel;have al:=HB.out.size;obtain⟨vA,vc,rfl⟩:=HO.out.form;have F9:Hid ((km b st j).length=j):=jq (azK b st j);rw[F9.out] at HO |-;by_cases aa:b+j * st<s
     ·have Ld:=jq ((Cs b s st BR j).2 aa);have IT:0<=(j:Int) * st:=Int.mul_nonneg (by omega) (by omega);generalize D5:(j:Int) * st=q at *;have HQ:=jq D5;clear D5;have e1:decide (b+q<s)=true:=uQ aa;by_cases j8:j<=400
      ·have e2:decide ((j:Int)<=400)=true:=aLQ;have HU:Hid (km b st (j+1)=km b st j ++ [b+q]):=jq (by rw[Kj,HQ.out]);go_wp2_with (at_builtin;refine aEQ _ rfl _ _ rfl w.heap.size _ (km b st j) rfl (HO.out.alloc _) wr.heap.size (b+q) (by simp[go_sem]) (by simp[go_sem]) (by rw[F9.out];omega) (by simp;omega) ?_;intro v5 w5 bS av;have H5:=jq (And.intro bS (((vQ w.heap.size wr).alloc al _).trans av));clear bS av);go_roundw
       case rel=>
        refine⟨j+1,?_,by omega,Ld,jq (by rw[HU.out];exact H5.out.1),jq (HB.out.trans H5.out.2)⟩
        have:((j+1:Nat):Int) * st=q+st:=by rw[<-HQ.out];push_cast;rw[Int.add_mul];omega
        rw[this];congr 1;omega
       case measure=>simp[intOf] <;> omega
      ·have e2:decide ((j:Int)<=400)=false:=aKX;have e3:decide ((400:Int)<(j:Int))=true:=aLQ;have HE:Hid (Np.fY b s l d f=2):=jq (by unfold Np.fY;rw[Qb HA.out,ck.out,Qc (by omega),Qb (by have:=Ld.out;omega)]);go_wp2_with fail;go_ret2;exact lv HB.out (pX HE.out (by omega)) HE.out
     ·have kK:j=(Np.fZ b s st).length:=by
       have:=mt (Cs b s st BR j).1 aa
       have:=HJ.out
       omega
      have HN:=jq kK;have nX:=jq (Rj b s st j kK);have IT:0<=(j:Int) * st:=Int.mul_nonneg (by omega) (by omega);clear kK;generalize D5:(j:Int) * st=q at *;have e1:decide (b+q<s)=false:=tQ aa;clear D5;by_cases j8:j<=400
      ·have e3:decide ((400:Int)<(j:Int))=false:=aKX;have HE:Hid (Np.fY b s l d f=0):=jq (by unfold Np.fY;rw[Qb HA.out,ck.out,Qc (by omega),Qc (by have:=HN.out;omega)]);have HT:Hid (Np.times b s l d f=km b st j):=jq (by unfold Np.times;rw[Qb HE.out,ck.out,nX.out]);go_wp2_with fail;go_ret2;refine⟨.slice vA j vc,?_,?_,HB.out⟩
       ·rw[HE.out];rfl
       ·rw[HT.out];exact HO.out.slr (by rw[F9.out];omega)
      ·have e3:decide ((400:Int)<(j:Int))=true:=aLQ;have HE:Hid (Np.fY b s l d f=2):=jq (by unfold Np.fY;rw[Qb HA.out,ck.out,Qc (by omega),Qb (by have:=HN.out;omega)]);go_wp2_with fail;go_ret2;exact lv HB.out (pX HE.out (by omega)) HE.out
 ·have HE:Hid (Np.fY b s l d f=1):=jq (by unfold Np.fY;rw[Qc tu]);have hcs:decide (d<0)=true\/(decide (d<0)=false/\decide (1000<d)=true)\/(decide (d<0)=false/\decide (1000<d)=false/\decide (b<d)=true)\/(decide (d<0)=false/\decide (1000<d)=false/\decide (b<d)=false/\decide (s<=b)=true)\/(decide (d<0)=false/\decide (1000<d)=false/\decide (b<d)=false/\decide (s<=b)=false/\decide (10000000<s)=true)\/(decide (d<0)=false/\decide (1000<d)=false/\decide (b<d)=false/\decide (s<=b)=false/\decide (10000000<s)=false/\decide (l<1)=true)\/(decide (d<0)=false/\decide (1000<d)=false/\decide (b<d)=false/\decide (s<=b)=false/\decide (10000000<s)=false/\decide (l<1)=false/\decide (10000000<l)=true)\/(decide (d<0)=false/\decide (1000<d)=false/\decide (b<d)=false/\decide (s<=b)=false/\decide (10000000<s)=false/\decide (l<1)=false/\decide (10000000<l)=false/\decide (f<0)=true)\/(decide (d<0)=false/\decide (1000<d)=false/\decide (b<d)=false/\decide (s<=b)=false/\decide (10000000<s)=false/\decide (l<1)=false/\decide (10000000<l)=false/\decide (f<0)=false/\decide (100000<f)=true):=by
   simp only[Qa,decide_eq_false_iff_not];unfold Np.wM at tu;omega
  clear tu;rcases hcs with d1 | ⟨d1,d2⟩ | ⟨d1,d2,d3⟩ | ⟨d1,d2,d3,d4⟩ | ⟨d1,d2,d3,d4,d5⟩ | ⟨d1,d2,d3,d4,d5,d6⟩ | ⟨d1,d2,d3,d4,d5,d6,d7⟩ | ⟨d1,d2,d3,d4,d5,d6,d7,d8⟩ | ⟨d1,d2,d3,d4,d5,d6,d7,d8,d9⟩
  all_goals
   go_enter func40,ntmps40;go_wp2_with fail;go_ret2;exact lv (vQ _ _) (pX HE.out (by omega)) HE.out
end
end Go.Proofs.YtfnopgdcaanaiaaGreatDoor
