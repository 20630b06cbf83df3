/- No condition. -/
import Derived.Test.YtfnopgdcaanaiaaGreatDoorS12
set_option linter.all false
set_option maxRecDepth 100000
set_option maxHeartbeats 8000000
namespace Go.Proofs.YtfnopgdcaanaiaaGreatDoor
open Go.Proofs.Tryz
section
open Go.RowKit
theorem SH(a b:Int)(w:World):Calls prog 99 #[.int .i64 a,.int .i64 b] w λe w'=>∃ f,e = .returned (.slice (some ⟨f,0,none⟩) 1 1)/\OneAt w.heap.size w' f [.int .i64 a,.int .i64 b]/\Below w.heap.size w w':=by
 go_enter func99,ntmps99;go_wp2_with fail;exact bodyPost_ret (v:=.slice (some ⟨w.heap.size,0,none⟩) 1 1) (by simp[results,results99,go_sem]) rfl ⟨_,rfl,⟨bQ _,by simp,OK w _ _⟩,blAl⟩
theorem Uc(k:Int)(t:ByteArray)(n m:Int)(w:World):Calls prog 173 #[.int .i64 k,.agg #[.string t,.int .i64 n,.int .i64 m]] w λe w'=>∃ b,e = .returned (.agg #[.string ⟨#[120]⟩,.int .i64 k,.int .i64 60,.slice (some ⟨b,0,none⟩) 1 1,.slice none 0 0])/\OneAt w.heap.size w' b [.string t,.int .i64 n,.int .i64 m]/\Below w.heap.size w w':=by
 go_enter func173,ntmps173;go_wp2_with fail;refine bodyPost_ret (v:=.agg #[.string ⟨#[120]⟩,.int .i64 k,.int .i64 60,.slice (some ⟨w.heap.size+1+1,0,none⟩) 1 1,.slice none 0 0]) (by simp[results,results173,go_sem]) rfl ⟨_,rfl,⟨by omega,by simp,pw _ _ (by simp) rfl⟩,?_⟩;exact ((blAl).alloc (by simp) _).alloc (by simp<;>omega) _
structure VerAt(n:Nat)(w:World)(b b1 b2:Nat)(k:Int):Prop where
 row:OneAt n w b [.string ⟨#[120]⟩,.int .i64 2,.int .i64 60,.slice (some ⟨b1,0,none⟩) 1 1,.slice none 0 0,.string ⟨#[120]⟩,.int .i64 4,.int .i64 60,.slice (some ⟨b2,0,none⟩) 1 1,.slice none 0 0]
 d1:OneAt n w b1 [.string ⟨#[97,46,110,115]⟩,.int .i64 0,.int .i64 0]
 d2:OneAt n w b2 [.string ⟨#[]⟩,.int .i64 k,.int .i64 9]
theorem VerAt.keep{n:Nat}{w w':World}{b b1 b2:Nat}{k:Int}(h:VerAt n w b b1 b2 k)(hb:Below w.heap.size w w'):VerAt n w' b b1 b2 k:=⟨h.row.keep hb,h.d1.keep hb,h.d2.keep hb⟩
theorem OneAt.off{n:Nat}{w:World}{b:Nat}{l:List Value}(h:OneAt n w b l){M:Nat->Prop}(hM:∀ k,M k->0<=k/\k<n):cA (bG w M) b 0 l:=h.cells.off (λe=>by have:=hM b e;have:=h.lo;omega)
theorem Ub{w:World}{B b:Nat}(hb:b<B)(h:cA w b 0 [.string ⟨#[97,46,110,115]⟩,.int .i64 0,.int .i64 0]):SlR ci 3 w B (.slice (some ⟨b,0,none⟩) 1 1) Np.s6.set.data:=
 p8 (R:=ci) [.string ⟨#[97,46,110,115]⟩,.int .i64 0,.int .i64 0] hb h ⟨⟨#[97,46,110,115]⟩,rfl,by decide,rfl⟩
theorem LM{w:World}{B b:Nat}{k:Int}(hb:b<B)(h:cA w b 0 [.string ⟨#[]⟩,.int .i64 k,.int .i64 9]):SlR ci 3 w B (.slice (some ⟨b,0,none⟩) 1 1) (Np.oW k).set.data:=
 p8 (R:=ci) [.string ⟨#[]⟩,.int .i64 k,.int .i64 9] hb h ⟨⟨#[]⟩,rfl,by decide,rfl⟩
theorem VerAt.around{n:Nat}{w:World}{b b1 b2:Nat}{k:Int}(h:VerAt n w b b1 b2 k):dx br 5 0 n w (.slice (some ⟨b,0,none⟩) 2 2) (Np.dj k).sets:=λM hM=>
 Fx (R:=br) [.string ⟨#[120]⟩,.int .i64 2,.int .i64 60,.slice (some ⟨b1,0,none⟩) 1 1,.slice none 0 0] [.string ⟨#[120]⟩,.int .i64 4,.int .i64 60,.slice (some ⟨b2,0,none⟩) 1 1,.slice none 0 0] rfl h.row.hi (h.row.off hM)
  ⟨⟨#[120]⟩,_,_,rfl,by decide,Ub h.d1.hi (h.d1.off hM),sY _ _ _ _,rfl⟩
  ⟨⟨#[120]⟩,_,_,rfl,by decide,LM h.d2.hi (h.d2.off hM),sY _ _ _ _,rfl⟩
theorem uz(n:Int)(w:World):Calls prog 100 #[.int .i64 n] w λe w'=>∃ b b1 b2,e = .returned (.agg #[.string ⟨#[120]⟩,.slice (some ⟨b,0,none⟩) 2 2])/\VerAt w.heap.size w' b b1 b2 n/\Below w.heap.size w w':=by
 go_enter func100,ntmps100;go_wp2_with fail;obtain⟨X,hX⟩:=afZ w.heap.size;obtain⟨w1,am⟩:=afZ (w.alloc (.cells #[.string ⟨#[]⟩,.slice none 0 0] 44));have bF:w1.heap.size=X+1:=by rw[<-am,<-hX];simp
 have av:Below X w w1:=by rw[<-am,<-hX];exact blAl
 have bB:w1.heap[X]?=some (.cells #[.string ⟨#[]⟩,.slice none 0 0] 44):=by rw[<-am,<-hX];exact heap_alloc_new _ _
 rw[am,hX];clear am;refine (Uc 2 ⟨#[97,46,110,115]⟩ 0 0 w1).mono ?_;rintro e w2 ⟨b1,rfl,h1,aa⟩;have aO:=aa.size;replace bB:=(aa.block X (by omega)).trans bB;have ah:=jq (av.trans (aa.afK));have H1:=jq h1;clear h1 av aa;go_wp2_with fail;refine (Uc 4 ⟨#[]⟩ n 9 w2).mono ?_;rintro e w3 ⟨b2,rfl,h2,ai⟩;have dR:=ai.size;replace bB:=(ai.block X (by omega)).trans bB;have aw:=aeX ah ai;have H1':=jq (H1.out.keep ai);have H2:=jq h2;clear h2 ai;have y0:w3.cell? ⟨X,0,none⟩=some (.string ⟨#[]⟩):=by simp[World.cell?,bB]
 have z0:w3.frozen? ⟨X,0,none⟩=false:=by simp[World.frozen?,bB]
 have y1:w3.cell? ⟨X,1,none⟩=some (.slice none 0 0):=by simp[World.cell?,bB]
 have z1:w3.frozen? ⟨X,1,none⟩=false:=by simp[World.frozen?,bB]
 have JH:X<w3.heap.size:=by omega
 go_wp2_with fail;obtain⟨W0,dz⟩:=afZ ((w3.setCell ⟨X,0,none⟩ (.string ⟨#[120]⟩)).setCell ⟨X,1,none⟩ (.slice (some ⟨w3.heap.size,0,none⟩) 2 2));have p7:W0.heap.size=w3.heap.size:=by rw[<-dz];simp
 have gI:∀ k,k≠X->W0.heap[k]?=w3.heap[k]?:=λk hk=>by rw[<-dz];exact (wQ _ _ _ k hk).trans (wQ _ _ _ k hk)
 have lW:Below X w W0:=by rw[<-dz];exact (aw.out.setCell (p:=⟨X,0,none⟩) (bQ _) _).setCell (p:=⟨X,1,none⟩) (bQ _) _
 have e0:W0.cell? ⟨X,0,none⟩=some (.string ⟨#[120]⟩):=by rw[<-dz];simp[go_sem,y0]
 have e1:W0.cell? ⟨X,1,none⟩=some (.slice (some ⟨w3.heap.size,0,none⟩) 2 2):=by rw[<-dz];simp[go_sem,y1]
 rw[dz];obtain⟨W,hW⟩:=afZ (W0.alloc (.cells #[.string ⟨#[120]⟩,.int .i64 2,.int .i64 60,.slice (some ⟨b1,0,none⟩) 1 1,.slice none 0 0,.string ⟨#[120]⟩,.int .i64 4,.int .i64 60,.slice (some ⟨b2,0,none⟩) 1 1,.slice none 0 0] 42));have hcW:cA W w3.heap.size 0 [.string ⟨#[120]⟩,.int .i64 2,.int .i64 60,.slice (some ⟨b1,0,none⟩) 1 1,.slice none 0 0,.string ⟨#[120]⟩,.int .i64 4,.int .i64 60,.slice (some ⟨b2,0,none⟩) 1 1,.slice none 0 0]:=pw _ _ p7 hW.symm;have Ft:W.heap.size=w3.heap.size+1:=by rw[<-hW,World.size_alloc,p7]
 have iN:∀ k,k<w3.heap.size->k≠X->W.heap[k]?=w3.heap[k]?:=λk h1 h2=>by rw[<-hW];exact (Below.heap_alloc W0 _ k (by omega)).trans (gI k h2)
 have f0:W.cell? ⟨X,0,none⟩=some (.string ⟨#[120]⟩):=by rw[<-hW];exact (iQ (a:=⟨X,0,none⟩) (Below.heap_alloc W0 _ X (by omega))).trans e0
 have f1:W.cell? ⟨X,1,none⟩=some (.slice (some ⟨w3.heap.size,0,none⟩) 2 2):=by rw[<-hW];exact (iQ (a:=⟨X,1,none⟩) (Below.heap_alloc W0 _ X (by omega))).trans e1
 have vM:Below X w W:=by rw[<-hW];exact lW.alloc (by omega) _
 rw[hW];refine bodyPost_ret (v:=.agg #[.string ⟨#[120]⟩,.slice (some ⟨w3.heap.size,0,none⟩) 2 2]) (by simp[results,results100,go_sem,f0,f1]) rfl ⟨_,b1,b2,rfl,⟨⟨by omega,by omega,hcW⟩,⟨?_,?_,?_⟩,⟨?_,?_,?_⟩⟩,by rw[hX];exact vM⟩
 ·have:=H1'.out.lo;omega
 ·have:=H1'.out.hi;omega
 ·exact H1'.out.cells.move (iN b1 H1'.out.hi (by have:=H1'.out.lo;omega))
 ·have:=H2.out.lo;omega
 ·have:=H2.out.hi;omega
 ·exact H2.out.cells.move (iN b2 H2.out.hi (by have:=H2.out.lo;omega))
def qP(s:ByteArray)(ty lf:Int)(dA:Option Addr)(dn dc:Nat)(gA:Option Addr)(gn gc:Nat)(a b:Int)(e3:Value)(i:Nat):Value:=[.agg #[.string s,.int .i64 ty,.int .i64 lf,.slice dA dn dc,.slice gA gn gc],.int .i64 a,.int .i64 b,e3,.agg #[.string ⟨#[120]⟩,.string s,.int .i64 ty,.int .i64 lf,.slice dA dn dc,.slice gA gn gc,e3,.slice none 0 0],undef].getD i undef
def mA(i:Nat):Nat:=[9,10,11,12,13,0].getD i 0
def J6:List Nat:=[0,1,2,4,3].map mA
theorem yR:∀ i∈[0,1,2,4,3],mA i<14/\mA i∈J6:=by decide
theorem J5:∀ i∈[0,1,2,4,3],∀ j∈[0,1,2,4,3],j≠i->mA i≠mA j:=by decide
theorem J4(k:Int)(s:ByteArray)(ty lf:Int)(dA:Option Addr)(dn dc:Nat)(gA:Option Addr)(gn gc:Nat)(a b:Int)(w:World):Calls prog 98 #[.int .i64 k,.agg #[.string s,.int .i64 ty,.int .i64 lf,.slice dA dn dc,.slice gA gn gc],.int .i64 a,.int .i64 b] w λe w'=>∃ f,e = .returned (.agg #[.string ⟨#[120]⟩,.string s,.int .i64 ty,.int .i64 lf,.slice dA dn dc,.slice gA gn gc,.slice (some ⟨f,0,none⟩) 1 1,.slice none 0 0])/\OneAt w.heap.size w' f [.int .i64 a,.int .i64 b]/\Below w.heap.size w w':=by
 obtain⟨X,hX⟩:=afZ w.heap.size;obtain⟨w2,aj⟩:=afZ ((w.alloc (.cells #[.string s,.int .i64 ty,.int .i64 lf,.slice dA dn dc,.slice gA gn gc] 42)).alloc (.cells #[.string ⟨#[]⟩,.string ⟨#[]⟩,.int .i64 0,.int .i64 0,.slice none 0 0,.slice none 0 0,.slice none 0 0,.slice none 0 0] 57));have aO:w2.heap.size=X+2:=by rw[<-aj,<-hX];simp
 have ah:Hid (Below X w w2):=jq (by rw[<-aj,<-hX];exact (blAl).alloc (by simp) _);have bB:w2.heap[X+1]?=some (.cells #[.string ⟨#[]⟩,.string ⟨#[]⟩,.int .i64 0,.int .i64 0,.slice none 0 0,.slice none 0 0,.slice none 0 0,.slice none 0 0] 57):=by
  rw[<-aj,<-hX]
  have:=heap_alloc_new (w.alloc (.cells #[.string s,.int .i64 ty,.int .i64 lf,.slice dA dn dc,.slice gA gn gc] 42)) (.cells #[.string ⟨#[]⟩,.string ⟨#[]⟩,.int .i64 0,.int .i64 0,.slice none 0 0,.slice none 0 0,.slice none 0 0,.slice none 0 0] 57)
  simpa using this
 obtain⟨p0,p1,p2,p3,p4⟩:=cRow5 w2 X (.string s) (.int .i64 ty) (.int .i64 lf) (.slice dA dn dc) (.slice gA gn gc) (by rw[<-aj,<-hX];simp[go_sem]);rw[hX];go_enter func98,ntmps98;go_wp2_with fail;clear aj hX;refine zT λa0 aV=>?_;have gz:=jq aV;have L9:=jq (show a0.eval (.tmp 5) = .pointer (some ⟨X,0,none⟩) by rw[aV];rfl);have xL:=jq (show a0.eval (.tmp 2) = .int .i64 a by rw[aV];rfl);have oZ:=jq (show a0.eval (.tmp 3) = .int .i64 b by rw[aV];rfl);have zY:=jq (show a0.eval (.tmp 8) = .pointer (some ⟨X+1,0,none⟩) by rw[aV];rfl);have HM:=jq (show a0.tmps.size=14 by rw[aV];rfl);clear aV;refine wp_region_any (by kernel_rfl) ?_;refine xJ (w:=w2.drew) (D:=[0,1,2]) (A:=[]) (p:=3) (dst:=mA) (val:=qP s ty lf dA dn dc gA gn gc a b undef) (m:=14)
  (base:=eJ a0 14 J6) (xI (by kernel_rfl)) (by simp) (by simp) (xH (by kernel_rfl)) ?_
  (λi hi=>(yR i (by simp at hi |-;omega)).1) (λi hi j hj=>J5 i (by simp at hi |-;omega) j (by simp at hj |-;omega)) (λi hi=>mM (yR i (by simp at hi |-;omega)).2) ?_ ?_ _ _ _ (Held.start (λq hq=>FX q hq) HM.out)
 ·intro i hi aC;simp only[List.mem_cons,Qh,or_false] at hi;rcases hi with rfl | rfl | rfl
  all_goals first | (exfalso;simp at aC;done) | exact⟨_,rfl,rfl⟩
 ·intro i hi aC o ho a' hb aq;have k5':=agK hb L9.out;have k2':=agK hb xL.out;have k3':=agK hb oZ.out;have k8':=agK hb zY.out;simp[Act.eval] at k5' k2' k3' k8';simp only[List.mem_cons,Qh,or_false] at hi;rcases hi with rfl | rfl | rfl
  all_goals first
   | (exfalso;simp at aC;done)
   | (cases ho
      try simp[Act.eval,Region.binds,qP,mA] at aq
      refine .inl ⟨by simp[Region.wanted],λw' hw'=>?_⟩;subst hw';simp[Oper.quietAt,Oper.quietUpon,execOp,go_sem,qP,k5',k2',k3',k8',p0,p1,p2,p3,p4,aq])
 ·intro f listed a' hH hr;obtain⟨_,o,ho,be⟩:=mem_ready.1 hr
  cases ho
  have hG:=hH.good;have hval:=λi hi hl=>hG.val i hi hl;have nD:∀ k,({ on:=k,ground:=.data } : Edge)∈_->listed.getD k false=true:=λk hk=>be _ hk rfl;have av1:=hval 1 (by simp) (nD 1 (by simp));have av2:=hval 2 (by simp) (nD 2 (by simp));simp[Act.eval,qP,mA] at av1 av2;simp only[wpOp];simp[Region.wanted];refine .inl ?_;simp[Oper.wp,go_sem,av1,av2];refine (SH a b w2.drew).mono ?_;rintro e w3 ⟨f,rfl,hv,hb'⟩;have hb:Below w2.heap.size w2 w3:=(vQ w2.heap.size w2).drew.trans hb';have dR:=hb.size;replace p0:=aeK hb p0;replace p1:=aeK hb p1;replace p2:=aeK hb p2;replace p3:=aeK hb p3;replace p4:=aeK hb p4;replace bB:=(hb.block (X+1) (by omega)).trans bB;have HV:Hid (w2.heap.size<=f/\f<w3.heap.size/\cA w3 f 0 [.int .i64 a,.int .i64 b]):=jq ⟨hv.lo,hv.hi,hv.cells⟩;have aw:=aeX ah hb;clear hv hb hb';dsimp only;refine xJ (w:=w3) (D:=[0,1,2,4,3]) (A:=[3]) (p:=5) (dst:=mA) (val:=qP s ty lf dA dn dc gA gn gc a b (.slice (some ⟨f,0,none⟩) 1 1)) (m:=14)
   (base:=eJ a0 14 J6) (xI (by kernel_rfl)) (by simp) (by simp) (xH (by kernel_rfl)) ?_
   (λi hi=>(yR i (by simp at hi |-;omega)).1) (λi hi j hj=>J5 i (by simp at hi |-;omega) j (by simp at hj |-;omega)) (λi hi=>mM (yR i (by simp at hi |-;omega)).2) ?_ ?_ _ _ _ (hH.act (D':=[0,1,2,4,3]) (val':=qP s ty lf dA dn dc gA gn gc a b (.slice (some ⟨f,0,none⟩) 1 1)) hr (by simp) (λi hi=>by simp at hi |-;omega) (λi hi=>by simp at hi;rcases hi with rfl | rfl | rfl<;>rfl) rfl (by simp[mA]) (λj hj=>J5 3 (by simp) j (by simp at hj |-;omega) (by rintro rfl;simp at hj)) (mM (yR 3 (by simp)).2) (by simp))
  ·intro i hi aC;simp only[List.mem_cons,Qh,or_false] at hi;rcases hi with rfl | rfl | rfl | rfl | rfl
   all_goals first | (exfalso;simp at aC;done) | exact⟨_,rfl,rfl⟩
  ·intro i hi aC o ho a' hb aq;have k5':=agK hb L9.out;have k2':=agK hb xL.out;have k3':=agK hb oZ.out;have k8':=agK hb zY.out;simp[Act.eval] at k5' k2' k3' k8';simp only[List.mem_cons,Qh,or_false] at hi;rcases hi with rfl | rfl | rfl | rfl | rfl
   all_goals first
    | (exfalso;simp at aC;done)
    | (cases ho
       try simp[Act.eval,Region.binds,qP,mA] at aq
       refine .inl ⟨by simp[Region.wanted],λw' hw'=>?_⟩;subst hw';simp[Oper.quietAt,Oper.quietUpon,execOp,go_sem,qP,k5',k2',k3',k8',p0,p1,p2,p3,p4,aq])
  ·intro f listed a' hH hr;obtain⟨_,o,ho,be⟩:=mem_ready.1 hr
   cases ho
   have hG:=hH.good;have hval:=λi hi hl=>hG.val i hi hl;have nD:∀ k,({ on:=k,ground:=.data } : Edge)∈_->listed.getD k false=true:=λk hk=>be _ hk rfl;obtain⟨rfl,jN⟩:=hH.all hr (by kernel_rfl);have av4:=hval 4 (by simp) (jN 4 (by simp) (by simp));simp[Act.eval,qP,mA] at av4;have B3:=Held.frame (D:=[0,1,2,4,3]) (dst:=mA) (a0:=a0) (m:=14) hH HM.out (λi hi=>jN i (by simp at hi |-;omega) (by simp at hi;omega)) (λi hi=>(yR i (by simp at hi |-;omega)).1);simp only[wpOp];simp[Region.wanted];refine .inl ?_;have y0:w3.cell? ⟨X+1,0,none⟩=some (.string ⟨#[]⟩):=by simp[World.cell?,bB]
   have z0:w3.frozen? ⟨X+1,0,none⟩=false:=by simp[World.frozen?,bB]
   have y1:w3.cell? ⟨X+1,1,none⟩=some (.string ⟨#[]⟩):=by simp[World.cell?,bB]
   have z1:w3.frozen? ⟨X+1,1,none⟩=false:=by simp[World.frozen?,bB]
   have y2:w3.cell? ⟨X+1,2,none⟩=some (.int .i64 0):=by simp[World.cell?,bB]
   have z2:w3.frozen? ⟨X+1,2,none⟩=false:=by simp[World.frozen?,bB]
   have y3:w3.cell? ⟨X+1,3,none⟩=some (.int .i64 0):=by simp[World.cell?,bB]
   have z3:w3.frozen? ⟨X+1,3,none⟩=false:=by simp[World.frozen?,bB]
   have y4:w3.cell? ⟨X+1,4,none⟩=some (.slice none 0 0):=by simp[World.cell?,bB]
   have z4:w3.frozen? ⟨X+1,4,none⟩=false:=by simp[World.frozen?,bB]
   have y5:w3.cell? ⟨X+1,5,none⟩=some (.slice none 0 0):=by simp[World.cell?,bB]
   have z5:w3.frozen? ⟨X+1,5,none⟩=false:=by simp[World.frozen?,bB]
   have y6:w3.cell? ⟨X+1,6,none⟩=some (.slice none 0 0):=by simp[World.cell?,bB]
   have z6:w3.frozen? ⟨X+1,6,none⟩=false:=by simp[World.frozen?,bB]
   have y7:w3.cell? ⟨X+1,7,none⟩=some (.slice none 0 0):=by simp[World.cell?,bB]
   have z7:w3.frozen? ⟨X+1,7,none⟩=false:=by simp[World.frozen?,bB]
   have k8':=(aJ hG.base (j:=8) (by decide) (by decide)).trans zY.out;simp[Act.eval] at k8';simp[Oper.wp,execOp,go_sem,av4,k8',y0,z0,y1,z1,y2,z2,y3,z3,y4,z4,y5,z5,y6,z6,y7,z7];refine⟨C3 (λi hi=>?_) (by rw[Array.size_setIfInBounds];exact hG.size),?_⟩
   ·by_cases hip:i=5
    ·subst hip;have hs:5<listed.size:=by rw[hG.size];exact hi
     simp[Array.getD,hs]
    ·exact oM (jN i hi hip)
   ·rw[B3,gz.out];simp[iA,Act.put,qP,mA];clear B3 hval nD jN be hG hH;obtain⟨W',hW'⟩:=afZ ((((((((w3.setCell ⟨X+1,0,none⟩ (.string ⟨#[120]⟩)).setCell ⟨X+1,1,none⟩ (.string s)).setCell ⟨X+1,2,none⟩ (.int .i64 ty)).setCell ⟨X+1,3,none⟩ (.int .i64 lf)).setCell ⟨X+1,4,none⟩ (.slice dA dn dc)).setCell ⟨X+1,5,none⟩ (.slice gA gn gc)).setCell ⟨X+1,6,none⟩ (.slice (some ⟨f,0,none⟩) 1 1)).setCell ⟨X+1,7,none⟩ (.slice none 0 0));have p7:W'.heap.size=w3.heap.size:=by rw[<-hW'];simp
    have gI:∀ k,k≠X+1->W'.heap[k]?=w3.heap[k]?:=λk hk=>by rw[<-hW'];exact ((wQ _ _ _ k hk).trans ((wQ _ _ _ k hk).trans ((wQ _ _ _ k hk).trans ((wQ _ _ _ k hk).trans ((wQ _ _ _ k hk).trans ((wQ _ _ _ k hk).trans ((wQ _ _ _ k hk).trans (wQ _ _ _ k hk))))))))
    have aS:Hid (Below X w W'):=jq (by rw[<-hW'];exact ((((((((aw.out.blSe (p:=⟨X+1,0,none⟩) _).blSe (p:=⟨X+1,1,none⟩) _).blSe (p:=⟨X+1,2,none⟩) _).blSe (p:=⟨X+1,3,none⟩) _).blSe (p:=⟨X+1,4,none⟩) _).blSe (p:=⟨X+1,5,none⟩) _).blSe (p:=⟨X+1,6,none⟩) _).blSe (p:=⟨X+1,7,none⟩) _));have e0:W'.cell? ⟨X+1,0,none⟩=some (.string ⟨#[120]⟩):=by rw[<-hW'];simp[go_sem,y0]
    have e1:W'.cell? ⟨X+1,1,none⟩=some (.string s):=by rw[<-hW'];simp[go_sem,y1]
    have e2:W'.cell? ⟨X+1,2,none⟩=some (.int .i64 ty):=by rw[<-hW'];simp[go_sem,y2]
    have e3:W'.cell? ⟨X+1,3,none⟩=some (.int .i64 lf):=by rw[<-hW'];simp[go_sem,y3]
    have e4:W'.cell? ⟨X+1,4,none⟩=some (.slice dA dn dc):=by rw[<-hW'];simp[go_sem,y4]
    have e5:W'.cell? ⟨X+1,5,none⟩=some (.slice gA gn gc):=by rw[<-hW'];simp[go_sem,y5]
    have e6:W'.cell? ⟨X+1,6,none⟩=some (.slice (some ⟨f,0,none⟩) 1 1):=by rw[<-hW'];simp[go_sem,y6]
    have e7:W'.cell? ⟨X+1,7,none⟩=some (.slice none 0 0):=by rw[<-hW'];simp[go_sem,y7]
    rw[hW'];go_wp2_with fail;refine bodyPost_ret (v:=.agg #[.string ⟨#[120]⟩,.string s,.int .i64 ty,.int .i64 lf,.slice dA dn dc,.slice gA gn gc,.slice (some ⟨f,0,none⟩) 1 1,.slice none 0 0]) (by simp[results,results98,go_sem,e0,e1,e2,e3,e4,e5,e6,e7]) rfl ⟨_,rfl,⟨by have:=HV.out.1;omega,by have:=HV.out.2.1;omega,HV.out.2.2.move (gI f (by have:=HV.out.1;omega))⟩,aS.out⟩
structure ExAt(n:Nat)(w:World)(e:List Value)(hb cb db ib v1 v2 v3:Nat):Prop where
 val:e = [.slice (some ⟨hb,0,none⟩) 2 2,.slice (some ⟨cb,0,none⟩) 3 3,.string ⟨#[46]⟩,.int .i64 6,.int .i64 60,.slice (some ⟨db,0,none⟩) 1 1,.slice (some ⟨ib,0,none⟩) 1 1,.int .i64 0,.int .i64 40]
 hosts:OneAt n w hb [.string ⟨#[97,46,110,115]⟩,.int .i64 1,.int .i64 0,.string ⟨#[98,46,110,115]⟩,.int .i64 2,.int .i64 0]
 copies:OneAt n w cb [.int .i64 0,.int .i64 0,.int .i64 10,.string ⟨#[120]⟩,.slice (some ⟨v1,0,none⟩) 2 2,.int .i64 0,.int .i64 10,.int .i64 30,.string ⟨#[120]⟩,.slice (some ⟨v2,0,none⟩) 2 2,.int .i64 1,.int .i64 5,.int .i64 20,.string ⟨#[120]⟩,.slice (some ⟨v3,0,none⟩) 2 2]
 obj:w.heap[cb]?=some (.cells #[.int .i64 0,.int .i64 0,.int .i64 10,.string ⟨#[120]⟩,.slice (some ⟨v1,0,none⟩) 2 2,.int .i64 0,.int .i64 10,.int .i64 30,.string ⟨#[120]⟩,.slice (some ⟨v2,0,none⟩) 2 2,.int .i64 1,.int .i64 5,.int .i64 20,.string ⟨#[120]⟩,.slice (some ⟨v3,0,none⟩) 2 2] 46)
 data:OneAt n w db [.string ⟨#[]⟩,.int .i64 1,.int .i64 1]
 hints:OneAt n w ib [.int .i64 1]
 ne:hb≠cb/\db≠cb/\ib≠cb
 z1:∀ M:Nat->Prop,(∀ k,M k->k<n\/k=cb)->SlR br 5 (bG w M) w.heap.size (.slice (some ⟨v1,0,none⟩) 2 2) (Np.dj 1).sets
 z2:∀ M:Nat->Prop,(∀ k,M k->k<n\/k=cb)->SlR br 5 (bG w M) w.heap.size (.slice (some ⟨v2,0,none⟩) 2 2) (Np.dj 2).sets
 z3:∀ M:Nat->Prop,(∀ k,M k->k<n\/k=cb)->SlR br 5 (bG w M) w.heap.size (.slice (some ⟨v3,0,none⟩) 2 2) (Np.dj 1).sets
theorem Z3(w:World):Calls prog 97 #[] w λe w'=>∃ e' hb cb db ib v1 v2 v3,e = .returned (.agg e'.toArray)/\ExAt w.heap.size w' e' hb cb db ib v1 v2 v3/\Below w.heap.size w w':=by
 obtain⟨X,hX⟩:=afZ w.heap.size;obtain⟨w1,am⟩:=afZ (((w.alloc (.cells #[.slice none 0 0,.slice none 0 0,.string ⟨#[]⟩,.int .i64 0,.int .i64 0,.slice none 0 0,.slice none 0 0,.int .i64 0,.int .i64 0] 29)).alloc (.cells #[.string ⟨#[]⟩,.int .i64 1,.int .i64 1] 128)).alloc (.cells #[.string ⟨#[46]⟩,.int .i64 6,.int .i64 60,.slice (some ⟨X+1,0,none⟩) 1 1] 26));have bF:w1.heap.size=X+3:=by rw[<-am,<-hX];simp
 have aF:Hid (Below X w w1):=jq (by rw[<-am,<-hX];exact ((blAl).alloc (by simp) _).alloc (by simp<;>omega) _);have bB:w1.heap[X]?=some (.cells #[.slice none 0 0,.slice none 0 0,.string ⟨#[]⟩,.int .i64 0,.int .i64 0,.slice none 0 0,.slice none 0 0,.int .i64 0,.int .i64 0] 29):=by
  rw[<-am,<-hX];exact (Below.heap_alloc _ _ _ (by simp<;>omega)).trans ((Below.heap_alloc _ _ _ (by simp)).trans (heap_alloc_new _ _))
 have fp:cA w1 (X+1) 0 [.string ⟨#[]⟩,.int .i64 1,.int .i64 1]:=by
  rw[<-am,<-hX];exact (pw (n:=w.heap.size+1) [.string ⟨#[]⟩,.int .i64 1,.int .i64 1] 128 (by simp) rfl).move (Below.heap_alloc _ _ _ (by simp))
 have oy:cA w1 (X+1+1) 0 [.string ⟨#[46]⟩,.int .i64 6,.int .i64 60,.slice (some ⟨X+1,0,none⟩) 1 1]:=by
  rw[<-am];exact pw _ _ (by simp[hX]) rfl
 rw[hX];go_enter func97,ntmps97;go_wp2_with fail
 try rw[am]
 clear am;refine (uz 1 w1).mono ?_;rintro e w2 ⟨v1,_,_,rfl,RB,hb⟩;have aO:=hb.size;replace bB:=(hb.block X (by omega)).trans bB;replace fp:=fp.move (hb.block (X+1) (by omega));replace oy:=oy.move (hb.block (X+1+1) (by omega));have ah:=aeX aF hb;have jC:=jq RB.around;have iX:=jq hb;clear RB hb;go_wp2_with fail;refine (uz 2 w2).mono ?_;rintro e w3 ⟨v2,_,_,rfl,sL,hb⟩;have dR:=hb.size;replace bB:=(hb.block X (by omega)).trans bB;replace fp:=fp.move (hb.block (X+1) (by omega));replace oy:=oy.move (hb.block (X+1+1) (by omega));have aw:=aeX ah hb;have mq:=jq sL.around;have Ax:=jq hb;clear sL hb;go_wp2_with fail;refine (uz 1 w3).mono ?_;rintro e w4 ⟨v3,_,_,rfl,RC,hb⟩;have fz:=hb.size;replace bB:=(hb.block X (by omega)).trans bB;replace fp:=fp.move (hb.block (X+1) (by omega));replace oy:=oy.move (hb.block (X+1+1) (by omega));have bi:=aeX aw hb;have rE:=jq RC.around;have AA:=jq hb;clear RC hb;obtain⟨w5,aK⟩:=afZ (w4.alloc (.cells #[.int .i64 0,.int .i64 0,.int .i64 10,.string ⟨#[120]⟩,.slice (some ⟨v1,0,none⟩) 2 2,.int .i64 0,.int .i64 10,.int .i64 30,.string ⟨#[120]⟩,.slice (some ⟨v2,0,none⟩) 2 2,.int .i64 1,.int .i64 5,.int .i64 20,.string ⟨#[120]⟩,.slice (some ⟨v3,0,none⟩) 2 2] 46));obtain⟨w6,bC⟩:=afZ (w5.alloc (.cells #[.string ⟨#[97,46,110,115]⟩,.int .i64 1,.int .i64 0,.string ⟨#[98,46,110,115]⟩,.int .i64 2,.int .i64 0] 101));obtain⟨cb,eT⟩:=afZ w4.heap.size;have KY:w5.heap.size=cb+1:=by rw[<-aK,<-eT];simp
 have eX:w6.heap.size=cb+2:=by rw[<-bC,World.size_alloc,KY]
 have JU:cA w6 cb 0 [.int .i64 0,.int .i64 0,.int .i64 10,.string ⟨#[120]⟩,.slice (some ⟨v1,0,none⟩) 2 2,.int .i64 0,.int .i64 10,.int .i64 30,.string ⟨#[120]⟩,.slice (some ⟨v2,0,none⟩) 2 2,.int .i64 1,.int .i64 5,.int .i64 20,.string ⟨#[120]⟩,.slice (some ⟨v3,0,none⟩) 2 2]:=by
  rw[<-bC];exact (pw _ _ eT aK.symm).move (Below.heap_alloc _ _ _ (by omega))
 have qU:w6.heap[cb]?=some (.cells #[.int .i64 0,.int .i64 0,.int .i64 10,.string ⟨#[120]⟩,.slice (some ⟨v1,0,none⟩) 2 2,.int .i64 0,.int .i64 10,.int .i64 30,.string ⟨#[120]⟩,.slice (some ⟨v2,0,none⟩) 2 2,.int .i64 1,.int .i64 5,.int .i64 20,.string ⟨#[120]⟩,.slice (some ⟨v3,0,none⟩) 2 2] 46):=by
  rw[<-bC];refine (Below.heap_alloc _ _ _ (by omega)).trans ?_;rw[<-aK,<-eT];exact heap_alloc_new _ _
 have J9:cA w6 (cb+1) 0 [.string ⟨#[97,46,110,115]⟩,.int .i64 1,.int .i64 0,.string ⟨#[98,46,110,115]⟩,.int .i64 2,.int .i64 0]:=pw _ _ KY bC.symm;have yM:Below w4.heap.size w4 w6:=by rw[<-bC,<-aK];exact (blAl).alloc (by simp) _
 replace bB:=(yM.block X (by omega)).trans bB;replace fp:=fp.move (yM.block (X+1) (by omega));replace oy:=oy.move (yM.block (X+1+1) (by omega));have cn:=aeX bi yM;have Wc:=jq yM;clear yM;have a0:w6.cell? ⟨X+1+1,0,none⟩=some (.string ⟨#[46]⟩):=oy 0 _ rfl;have a1:w6.cell? ⟨X+1+1,1,none⟩=some (.int .i64 6):=oy 1 _ rfl;have a2:w6.cell? ⟨X+1+1,2,none⟩=some (.int .i64 60):=oy 2 _ rfl;have a3:w6.cell? ⟨X+1+1,3,none⟩=some (.slice (some ⟨X+1,0,none⟩) 1 1):=oy 3 _ rfl;obtain⟨w7,gL⟩:=afZ (w6.alloc (.cells #[.int .i64 1] 3));have mG:w7.heap.size=cb+3:=by rw[<-gL,World.size_alloc,eX]
 have tM:Below w6.heap.size w6 w7:=by rw[<-gL];exact blAl
 have hi7:cA w7 (cb+2) 0 [.int .i64 1]:=pw _ _ eX gL.symm;replace JU:=JU.move (tM.block cb (by omega));replace J9:=J9.move (tM.block (cb+1) (by omega));replace bB:=(tM.block X (by omega)).trans bB;replace fp:=fp.move (tM.block (X+1) (by omega));have cZ:=aeX cn tM;have tp:=aeX Wc tM;have UF:=jq tM;clear tM;have y0:w7.cell? ⟨X,0,none⟩=some (.slice none 0 0):=by simp[World.cell?,bB]
 have z0:w7.frozen? ⟨X,0,none⟩=false:=by simp[World.frozen?,bB]
 have y1:w7.cell? ⟨X,1,none⟩=some (.slice none 0 0):=by simp[World.cell?,bB]
 have z1:w7.frozen? ⟨X,1,none⟩=false:=by simp[World.frozen?,bB]
 have y2:w7.cell? ⟨X,2,none⟩=some (.string ⟨#[]⟩):=by simp[World.cell?,bB]
 have z2:w7.frozen? ⟨X,2,none⟩=false:=by simp[World.frozen?,bB]
 have y3:w7.cell? ⟨X,3,none⟩=some (.int .i64 0):=by simp[World.cell?,bB]
 have z3:w7.frozen? ⟨X,3,none⟩=false:=by simp[World.frozen?,bB]
 have y4:w7.cell? ⟨X,4,none⟩=some (.int .i64 0):=by simp[World.cell?,bB]
 have z4:w7.frozen? ⟨X,4,none⟩=false:=by simp[World.frozen?,bB]
 have y5:w7.cell? ⟨X,5,none⟩=some (.slice none 0 0):=by simp[World.cell?,bB]
 have z5:w7.frozen? ⟨X,5,none⟩=false:=by simp[World.frozen?,bB]
 have y6:w7.cell? ⟨X,6,none⟩=some (.slice none 0 0):=by simp[World.cell?,bB]
 have z6:w7.frozen? ⟨X,6,none⟩=false:=by simp[World.frozen?,bB]
 have y7:w7.cell? ⟨X,7,none⟩=some (.int .i64 0):=by simp[World.cell?,bB]
 have z7:w7.frozen? ⟨X,7,none⟩=false:=by simp[World.frozen?,bB]
 have y8:w7.cell? ⟨X,8,none⟩=some (.int .i64 0):=by simp[World.cell?,bB]
 have z8:w7.frozen? ⟨X,8,none⟩=false:=by simp[World.frozen?,bB]
 go_wp2_with fail;obtain⟨W,hW⟩:=afZ (((((((((w7.setCell ⟨X,0,none⟩ (.slice (some ⟨cb+1,0,none⟩) 2 2)).setCell ⟨X,1,none⟩ (.slice (some ⟨cb,0,none⟩) 3 3)).setCell ⟨X,2,none⟩ (.string ⟨#[46]⟩)).setCell ⟨X,3,none⟩ (.int .i64 6)).setCell ⟨X,4,none⟩ (.int .i64 60)).setCell ⟨X,5,none⟩ (.slice (some ⟨X+1,0,none⟩) 1 1)).setCell ⟨X,6,none⟩ (.slice (some ⟨cb+2,0,none⟩) 1 1)).setCell ⟨X,7,none⟩ (.int .i64 0)).setCell ⟨X,8,none⟩ (.int .i64 40));have p7:W.heap.size=cb+3:=by rw[<-hW,<-mG];simp
 have gI:∀ k,k≠X->W.heap[k]?=w7.heap[k]?:=λk hk=>by rw[<-hW];exact ((wQ _ _ _ k hk).trans ((wQ _ _ _ k hk).trans ((wQ _ _ _ k hk).trans ((wQ _ _ _ k hk).trans ((wQ _ _ _ k hk).trans ((wQ _ _ _ k hk).trans ((wQ _ _ _ k hk).trans ((wQ _ _ _ k hk).trans (wQ _ _ _ k hk)))))))))
 have gZ:W.os=w7.os/\W.tape=w7.tape/\W.output=w7.output:=by rw[<-hW];simp[World.setCell]
 have aS:Hid (Below X w W):=jq (by rw[<-hW];exact (((((((((cZ.out.setCell (p:=⟨X,0,none⟩) (bQ _) _).setCell (p:=⟨X,1,none⟩) (bQ _) _).setCell (p:=⟨X,2,none⟩) (bQ _) _).setCell (p:=⟨X,3,none⟩) (bQ _) _).setCell (p:=⟨X,4,none⟩) (bQ _) _).setCell (p:=⟨X,5,none⟩) (bQ _) _).setCell (p:=⟨X,6,none⟩) (bQ _) _).setCell (p:=⟨X,7,none⟩) (bQ _) _).setCell (p:=⟨X,8,none⟩) (bQ _) _));have e0:W.cell? ⟨X,0,none⟩=some (.slice (some ⟨cb+1,0,none⟩) 2 2):=by rw[<-hW];simp[go_sem,y0]
 have e1:W.cell? ⟨X,1,none⟩=some (.slice (some ⟨cb,0,none⟩) 3 3):=by rw[<-hW];simp[go_sem,y1]
 have e2:W.cell? ⟨X,2,none⟩=some (.string ⟨#[46]⟩):=by rw[<-hW];simp[go_sem,y2]
 have e3:W.cell? ⟨X,3,none⟩=some (.int .i64 6):=by rw[<-hW];simp[go_sem,y3]
 have e4:W.cell? ⟨X,4,none⟩=some (.int .i64 60):=by rw[<-hW];simp[go_sem,y4]
 have e5:W.cell? ⟨X,5,none⟩=some (.slice (some ⟨X+1,0,none⟩) 1 1):=by rw[<-hW];simp[go_sem,y5]
 have e6:W.cell? ⟨X,6,none⟩=some (.slice (some ⟨cb+2,0,none⟩) 1 1):=by rw[<-hW];simp[go_sem,y6]
 have e7:W.cell? ⟨X,7,none⟩=some (.int .i64 0):=by rw[<-hW];simp[go_sem,y7]
 have e8:W.cell? ⟨X,8,none⟩=some (.int .i64 40):=by rw[<-hW];simp[go_sem,y8]
 rw[hW];refine bodyPost_ret (v:=.agg #[.slice (some ⟨cb+1,0,none⟩) 2 2,.slice (some ⟨cb,0,none⟩) 3 3,.string ⟨#[46]⟩,.int .i64 6,.int .i64 60,.slice (some ⟨X+1,0,none⟩) 1 1,.slice (some ⟨cb+2,0,none⟩) 1 1,.int .i64 0,.int .i64 40]) (by simp[results,results97,go_sem,e0,e1,e2,e3,e4,e5,e6,e7,e8]) rfl ⟨_,cb+1,cb,X+1,cb+2,v1,v2,v3,rfl,⟨rfl,⟨by omega,by omega,J9.move (gI _ (by omega))⟩,⟨by omega,by omega,JU.move (gI _ (by omega))⟩,(gI cb (by omega)).trans ((UF.out.block cb (by omega)).trans qU),⟨by omega,by omega,fp.move (gI _ (by omega))⟩,⟨by omega,by omega,hi7.move (gI _ (by omega))⟩,by omega,?_,?_,?_⟩,aS.out⟩
 all_goals intro M hM
 ·have h1:=jC.out.later (M:=λk=>M k\/k=X) aP bK (Ax.out.trans ((AA.out.afK).trans (tp.out.afK))) (λk e=>by
   rcases e with e | e
   ·have:=hM k e;omega
   ·omega)
  exact (Leaves'.slr (M:=λk=>M k\/k=X) (M':=λk=>M k\/k=X) aP js bK ⟨gZ.1,gZ.2.1,gZ.2.2,by omega,λi hi hm=>⟨hm,gI i (λe=>hm (.inr e))⟩⟩ h1).sans js (λk e=>.inl e)
 ·have h1:=mq.out.later (M:=λk=>M k\/k=X) aP bK (AA.out.trans (tp.out.afK)) (λk e=>by
   rcases e with e | e
   ·have:=hM k e;omega
   ·omega)
  exact (Leaves'.slr (M:=λk=>M k\/k=X) (M':=λk=>M k\/k=X) aP js bK ⟨gZ.1,gZ.2.1,gZ.2.2,by omega,λi hi hm=>⟨hm,gI i (λe=>hm (.inr e))⟩⟩ h1).sans js (λk e=>.inl e)
 ·have h1:=rE.out.later (M:=λk=>M k\/k=X) aP bK tp.out (λk e=>by
   rcases e with e | e
   ·have:=hM k e;omega
   ·omega)
  exact (Leaves'.slr (M:=λk=>M k\/k=X) (M':=λk=>M k\/k=X) aP js bK ⟨gZ.1,gZ.2.1,gZ.2.2,by omega,λi hi hm=>⟨hm,gI i (λe=>hm (.inr e))⟩⟩ h1).sans js (λk e=>.inl e)
theorem ExAt.rhist{n:Nat}{w:World}{e:List Value}{hb cb db ib v1 v2 v3:Nat}(h:ExAt n w e hb cb db ib v1 v2 v3):ik w w.heap.size e Np.exH:=by
 have hF:∀ k,(λ_:Nat=>False) k->k<n\/k=cb:=λ_ e=>e.elim;exact⟨_,_,⟨#[46]⟩,_,_,h.val,rfl,by decide,Fx (R:=gp) [.string ⟨#[97,46,110,115]⟩,.int .i64 1,.int .i64 0] [.string ⟨#[98,46,110,115]⟩,.int .i64 2,.int .i64 0] rfl h.hosts.hi h.hosts.cells ⟨⟨#[97,46,110,115]⟩,rfl,by decide,rfl⟩ ⟨⟨#[98,46,110,115]⟩,rfl,by decide,rfl⟩,K4 (R:=lR) [.int .i64 0,.int .i64 0,.int .i64 10,.string ⟨#[120]⟩,.slice (some ⟨v1,0,none⟩) 2 2] [.int .i64 0,.int .i64 10,.int .i64 30,.string ⟨#[120]⟩,.slice (some ⟨v2,0,none⟩) 2 2] [.int .i64 1,.int .i64 5,.int .i64 20,.string ⟨#[120]⟩,.slice (some ⟨v3,0,none⟩) 2 2] rfl rfl h.copies.hi h.copies.cells ⟨⟨#[120]⟩,_,rfl,by decide,((h.z1 _ hF).all js),rfl⟩ ⟨⟨#[120]⟩,_,rfl,by decide,((h.z2 _ hF).all js),rfl⟩ ⟨⟨#[120]⟩,_,rfl,by decide,((h.z3 _ hF).all js),rfl⟩,p8 (R:=ci) [.string ⟨#[]⟩,.int .i64 1,.int .i64 1] h.data.hi h.data.cells ⟨⟨#[]⟩,rfl,by decide,rfl⟩,p8 (R:=ei) [.int .i64 1] h.hints.hi h.hints.cells rfl⟩
theorem ExAt.bad{n:Nat}{w W W':World}{e:List Value}{hb cb db ib v1 v2 v3:Nat}(h:ExAt n w e hb cb db ib v1 v2 v3)(hW:Below w.heap.size w W)(ht:Turned cb W W')(ho:W'.heap[cb]?=some (.cells #[.int .i64 0,.int .i64 0,.int .i64 10,.string ⟨#[120]⟩,.slice (some ⟨v1,0,none⟩) 2 2,.int .i64 0,.int .i64 9,.int .i64 30,.string ⟨#[120]⟩,.slice (some ⟨v2,0,none⟩) 2 2,.int .i64 1,.int .i64 5,.int .i64 20,.string ⟨#[120]⟩,.slice (some ⟨v3,0,none⟩) 2 2] 46)):ik W' W'.heap.size e Np.yD:=by
 have hz:w.heap.size<=W'.heap.size:=by rw[ht.size];exact hW.size
 have hk:∀ k,k<w.heap.size->k≠cb->W'.heap[k]?=w.heap[k]?:=λk h1 h2=>(ht.block k h2).trans (hW.block k h1);have hc:cA W' cb 0 [.int .i64 0,.int .i64 0,.int .i64 10,.string ⟨#[120]⟩,.slice (some ⟨v1,0,none⟩) 2 2,.int .i64 0,.int .i64 9,.int .i64 30,.string ⟨#[120]⟩,.slice (some ⟨v2,0,none⟩) 2 2,.int .i64 1,.int .i64 5,.int .i64 20,.string ⟨#[120]⟩,.slice (some ⟨v3,0,none⟩) 2 2]:=λj v hj=>by
  unfold World.cell?;rw[ho,Nat.zero_add];simpa using hj
 have hz':∀ {k:Int} {v:Nat},(∀ M:Nat->Prop,(∀ k,M k->k<n\/k=cb)->SlR br 5 (bG w M) w.heap.size (.slice (some ⟨v,0,none⟩) 2 2) (Np.dj k).sets)->SlR br 5 W' W'.heap.size (.slice (some ⟨v,0,none⟩) 2 2) (Np.dj k).sets:=λh1=>
  Ow (p:=λk=>k<n\/k=cb) (λM hM=>Ov h1 aP bK hW (λk e=>.inl (hM k e))) aP js bK (.inr rfl) ht
 exact⟨_,_,⟨#[46]⟩,_,_,h.val,rfl,by decide,Fx (R:=gp) [.string ⟨#[97,46,110,115]⟩,.int .i64 1,.int .i64 0] [.string ⟨#[98,46,110,115]⟩,.int .i64 2,.int .i64 0] rfl (lQ h.hosts.hi hz) (h.hosts.cells.move (hk hb h.hosts.hi h.ne.1)) ⟨⟨#[97,46,110,115]⟩,rfl,by decide,rfl⟩ ⟨⟨#[98,46,110,115]⟩,rfl,by decide,rfl⟩,K4 (R:=lR) [.int .i64 0,.int .i64 0,.int .i64 10,.string ⟨#[120]⟩,.slice (some ⟨v1,0,none⟩) 2 2] [.int .i64 0,.int .i64 9,.int .i64 30,.string ⟨#[120]⟩,.slice (some ⟨v2,0,none⟩) 2 2] [.int .i64 1,.int .i64 5,.int .i64 20,.string ⟨#[120]⟩,.slice (some ⟨v3,0,none⟩) 2 2] rfl rfl (lQ h.copies.hi hz) hc ⟨⟨#[120]⟩,_,rfl,by decide,(hz' h.z1),rfl⟩ ⟨⟨#[120]⟩,_,rfl,by decide,(hz' h.z2),rfl⟩ ⟨⟨#[120]⟩,_,rfl,by decide,(hz' h.z3),rfl⟩,p8 (R:=ci) [.string ⟨#[]⟩,.int .i64 1,.int .i64 1] (lQ h.data.hi hz) (h.data.cells.move (hk db h.data.hi h.ne.2.1)) ⟨⟨#[]⟩,rfl,by decide,rfl⟩,p8 (R:=ei) [.int .i64 1] (lQ h.hints.hi hz) (h.hints.cells.move (hk ib h.hints.hi h.ne.2.2)) rfl⟩
end
end Go.Proofs.YtfnopgdcaanaiaaGreatDoor
