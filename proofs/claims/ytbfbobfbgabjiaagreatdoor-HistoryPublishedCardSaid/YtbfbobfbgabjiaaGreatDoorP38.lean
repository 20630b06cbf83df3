/- Parts of the proof. No condition. -/
import Derived.Test.YtbfbobfbgabjiaaGreatDoorP32
set_option linter.all false
set_option maxRecDepth 100000
set_option maxHeartbeats 8000000
namespace Go.Proofs.YtbfbobfbgabjiaaGreatDoor
open Go.Proofs.Tryz
section
open Go.RowKit
theorem lk{w w':World}{n:Nat}(l:List Value)(T:TypeId)(hn:w.heap.size=n)(he:w'=w.alloc (.cells l.toArray T)):cR w' n 0 l:=by subst hn; subst he; exact Nb w l T
theorem cR.move{w w':World}{b o:Nat}{e:List Value}(h:cR w b o e)(hb:w'.heap[b]?=w.heap[b]?):cR w' b o e:=λj v hj=>(iQ (a:=⟨b,o+j,none⟩) hb).trans (h j v hj)
structure OneAt(n:Nat)(w:World)(b:Nat)(l:List Value):Prop where
 lo:n<=b
 hi:b<w.heap.size
 cells:cR w b 0 l
theorem OneAt.keep{n:Nat}{w w':World}{b:Nat}{l:List Value}(h:OneAt n w b l)(hb:Below w.heap.size w w'):OneAt n w' b l:=⟨h.lo,lQ h.hi hb.size,h.cells.keep hb h.hi⟩
theorem QF(a b:Int)(w:World):Calls prog 38 #[.int .i64 a,.int .i64 b] w λe w'=>∃ f,e = .returned (.slice (some ⟨f,0,none⟩) 1 1)/\OneAt w.heap.size w' f [.int .i64 a,.int .i64 b]/\Below w.heap.size w w':=by
 go_enter func38,ntmps38;go_wp2_with fail;exact bodyPost_ret (v:=.slice (some ⟨w.heap.size,0,none⟩) 1 1) (by simp[results,results38,go_sem]) rfl ⟨_,rfl,⟨bQ _,by simp,Nb w _ _⟩,(vQ _ _).alloc (bQ _) _⟩
theorem RS(k:Int)(t:ByteArray)(n m:Int)(w:World):Calls prog 90 #[.int .i64 k,.agg #[.string t,.int .i64 n,.int .i64 m]] w λe w'=>∃ b,e = .returned (.agg #[.string ⟨#[120]⟩,.int .i64 k,.int .i64 60,.slice (some ⟨b,0,none⟩) 1 1,.slice none 0 0])/\OneAt w.heap.size w' b [.string t,.int .i64 n,.int .i64 m]/\Below w.heap.size w w':=by
 go_enter func90,ntmps90;go_wp2_with fail;refine bodyPost_ret (v:=.agg #[.string ⟨#[120]⟩,.int .i64 k,.int .i64 60,.slice (some ⟨w.heap.size+1+1,0,none⟩) 1 1,.slice none 0 0]) (by simp[results,results90,go_sem]) rfl ⟨_,rfl,⟨by omega,by simp,lk _ _ (by simp) rfl⟩,?_⟩;exact (((vQ _ _).alloc (bQ _) _).alloc (by simp) _).alloc (by simp <;> omega) _
structure VerAt(n:Nat)(w:World)(b b1 b2:Nat)(k:Int):Prop where
 row:OneAt n w b [.string ⟨#[120]⟩,.int .i64 2,.int .i64 60,.slice (some ⟨b1,0,none⟩) 1 1,.slice none 0 0,.string ⟨#[120]⟩,.int .i64 4,.int .i64 60,.slice (some ⟨b2,0,none⟩) 1 1,.slice none 0 0]
 d1:OneAt n w b1 [.string ⟨#[97,46,110,115]⟩,.int .i64 0,.int .i64 0]
 d2:OneAt n w b2 [.string ⟨#[]⟩,.int .i64 k,.int .i64 9]
theorem VerAt.keep{n:Nat}{w w':World}{b b1 b2:Nat}{k:Int}(h:VerAt n w b b1 b2 k)(hb:Below w.heap.size w w'):VerAt n w' b b1 b2 k:=⟨h.row.keep hb,h.d1.keep hb,h.d2.keep hb⟩
theorem OneAt.off{n:Nat}{w:World}{b:Nat}{l:List Value}(h:OneAt n w b l){M:Nat->Prop}(hM:∀ k,M k->0<=k/\k<n):cR (bj w M) b 0 l:=h.cells.off (λe=>by have:=hM b e; have:=h.lo; omega)
theorem RR{w:World}{B b:Nat}(hb:b<B)(h:cR w b 0 [.string ⟨#[97,46,110,115]⟩,.int .i64 0,.int .i64 0]):SlR cr 3 w B (.slice (some ⟨b,0,none⟩) 1 1) Np.sN.set.data:=
 pU (R:=cr) [.string ⟨#[97,46,110,115]⟩,.int .i64 0,.int .i64 0] hb h ⟨⟨#[97,46,110,115]⟩,rfl,by decide,rfl⟩
theorem Lb{w:World}{B b:Nat}{k:Int}(hb:b<B)(h:cR w b 0 [.string ⟨#[]⟩,.int .i64 k,.int .i64 9]):SlR cr 3 w B (.slice (some ⟨b,0,none⟩) 1 1) (Np.oS k).set.data:=
 pU (R:=cr) [.string ⟨#[]⟩,.int .i64 k,.int .i64 9] hb h ⟨⟨#[]⟩,rfl,by decide,rfl⟩
theorem VerAt.around{n:Nat}{w:World}{b b1 b2:Nat}{k:Int}(h:VerAt n w b b1 b2 k):fI bC 5 0 n w (.slice (some ⟨b,0,none⟩) 2 2) (Np.dl k).sets:=λM hM=>
 E3 (R:=bC) [.string ⟨#[120]⟩,.int .i64 2,.int .i64 60,.slice (some ⟨b1,0,none⟩) 1 1,.slice none 0 0] [.string ⟨#[120]⟩,.int .i64 4,.int .i64 60,.slice (some ⟨b2,0,none⟩) 1 1,.slice none 0 0] rfl h.row.hi (h.row.off hM)
  ⟨⟨#[120]⟩,_,_,rfl,by decide,RR h.d1.hi (h.d1.off hM),sL _ _ _ _,rfl⟩
  ⟨⟨#[120]⟩,_,_,rfl,by decide,Lb h.d2.hi (h.d2.off hM),sL _ _ _ _,rfl⟩
theorem uz(n:Int)(w:World):Calls prog 39 #[.int .i64 n] w λe w'=>∃ b b1 b2,e = .returned (.agg #[.string ⟨#[120]⟩,.slice (some ⟨b,0,none⟩) 2 2])/\VerAt w.heap.size w' b b1 b2 n/\Below w.heap.size w w':=by
 go_enter func39,ntmps39;go_wp2_with fail;obtain⟨X,hX⟩:∃ X,w.heap.size=X:=⟨_,rfl⟩;obtain⟨w1,ak⟩:∃ w1,w.alloc (.cells #[.string ⟨#[]⟩,.slice none 0 0] 56)=w1:=⟨_,rfl⟩;have bL:w1.heap.size=X+1:=by rw[<-ak,<-hX]; simp
 have ap:Below X w w1:=by rw[<-ak,<-hX]; exact (vQ _ _).alloc (bQ _) _
 have aZ:w1.heap[X]?=some (.cells #[.string ⟨#[]⟩,.slice none 0 0] 56):=by rw[<-ak,<-hX]; exact heap_alloc_new _ _
 rw[ak,hX];clear ak;refine (RS 2 ⟨#[97,46,110,115]⟩ 0 0 w1).mono ?_;rintro e w2 ⟨b1,rfl,h1,ab⟩;have aM:=ab.size;replace aZ:=(ab.block X (by omega)).trans aZ;have al:=jq (ap.trans (ab.mono (by omega)));have H1:=jq h1;clear h1 ap ab;go_wp2_with fail;refine (RS 4 ⟨#[]⟩ n 9 w2).mono ?_;rintro e w3 ⟨b2,rfl,h2,ag⟩;have er:=ag.size;replace aZ:=(ag.block X (by omega)).trans aZ;have ar:=jq (al.out.trans (ag.mono (by omega)));have H1':=jq (H1.out.keep ag);have H2:=jq h2;clear h2 ag;have y0:w3.cell? ⟨X,0,none⟩=some (.string ⟨#[]⟩):=by simp[World.cell?,aZ]
 have z0:w3.frozen? ⟨X,0,none⟩=false:=by simp[World.frozen?,aZ]
 have y1:w3.cell? ⟨X,1,none⟩=some (.slice none 0 0):=by simp[World.cell?,aZ]
 have z1:w3.frozen? ⟨X,1,none⟩=false:=by simp[World.frozen?,aZ]
 have I0:X<w3.heap.size:=by omega
 go_wp2_with fail;obtain⟨W0,dE⟩:∃ W0,(w3.setCell ⟨X,0,none⟩ (.string ⟨#[120]⟩)).setCell ⟨X,1,none⟩ (.slice (some ⟨w3.heap.size,0,none⟩) 2 2)=W0:=⟨_,rfl⟩;have pT:W0.heap.size=w3.heap.size:=by rw[<-dE]; simp
 have gN:∀ k,k≠X->W0.heap[k]?=w3.heap[k]?:=λk hk=>by rw[<-dE]; exact (wQ _ _ _ k hk).trans (wQ _ _ _ k hk)
 have lU:Below X w W0:=by rw[<-dE]; exact (ar.out.setCell (p:=⟨X,0,none⟩) (bQ _) _).setCell (p:=⟨X,1,none⟩) (bQ _) _
 have e0:W0.cell? ⟨X,0,none⟩=some (.string ⟨#[120]⟩):=by rw[<-dE]; simp[go_sem,y0]
 have e1:W0.cell? ⟨X,1,none⟩=some (.slice (some ⟨w3.heap.size,0,none⟩) 2 2):=by rw[<-dE]; simp[go_sem,y1]
 rw[dE];obtain⟨W,hW⟩:∃ W,W0.alloc (.cells #[.string ⟨#[120]⟩,.int .i64 2,.int .i64 60,.slice (some ⟨b1,0,none⟩) 1 1,.slice none 0 0,.string ⟨#[120]⟩,.int .i64 4,.int .i64 60,.slice (some ⟨b2,0,none⟩) 1 1,.slice none 0 0] 68)=W:=⟨_,rfl⟩;have Yf:cR W w3.heap.size 0 [.string ⟨#[120]⟩,.int .i64 2,.int .i64 60,.slice (some ⟨b1,0,none⟩) 1 1,.slice none 0 0,.string ⟨#[120]⟩,.int .i64 4,.int .i64 60,.slice (some ⟨b2,0,none⟩) 1 1,.slice none 0 0]:=lk _ _ pT hW.symm;have EX:W.heap.size=w3.heap.size+1:=by rw[<-hW,World.size_alloc,pT]
 have ia:∀ k,k<w3.heap.size->k≠X->W.heap[k]?=w3.heap[k]?:=λk h1 h2=>by rw[<-hW]; exact (Below.heap_alloc W0 _ k (by omega)).trans (gN k h2)
 have f0:W.cell? ⟨X,0,none⟩=some (.string ⟨#[120]⟩):=by rw[<-hW]; exact (iQ (a:=⟨X,0,none⟩) (Below.heap_alloc W0 _ X (by omega))).trans e0
 have f1:W.cell? ⟨X,1,none⟩=some (.slice (some ⟨w3.heap.size,0,none⟩) 2 2):=by rw[<-hW]; exact (iQ (a:=⟨X,1,none⟩) (Below.heap_alloc W0 _ X (by omega))).trans e1
 have vK:Below X w W:=by rw[<-hW]; exact lU.alloc (by omega) _
 rw[hW];refine bodyPost_ret (v:=.agg #[.string ⟨#[120]⟩,.slice (some ⟨w3.heap.size,0,none⟩) 2 2]) (by simp[results,results39,go_sem,f0,f1]) rfl ⟨_,b1,b2,rfl,⟨⟨by omega,by omega,Yf⟩,⟨?_,?_,?_⟩,⟨?_,?_,?_⟩⟩,by rw[hX]; exact vK⟩
 ·have:=H1'.out.lo; omega
 ·have:=H1'.out.hi; omega
 ·exact H1'.out.cells.move (ia b1 H1'.out.hi (by have:=H1'.out.lo; omega))
 ·have:=H2.out.lo; omega
 ·have:=H2.out.hi; omega
 ·exact H2.out.cells.move (ia b2 H2.out.hi (by have:=H2.out.lo; omega))
def qz(s:ByteArray)(ty lf:Int)(dA:Option Addr)(dn dc:Nat)(gA:Option Addr)(gn gc:Nat)(a b:Int)(e3:Value)(i:Nat):Value:=[.agg #[.string s,.int .i64 ty,.int .i64 lf,.slice dA dn dc,.slice gA gn gc],.int .i64 a,.int .i64 b,e3,.agg #[.string ⟨#[120]⟩,.string s,.int .i64 ty,.int .i64 lf,.slice dA dn dc,.slice gA gn gc,e3,.slice none 0 0],undef].getD i undef
def mF(i:Nat):Nat:=[9,10,11,12,13,0].getD i 0
def Jq:List Nat:=[0,1,2,4,3].map mF
theorem yv:∀ i∈[0,1,2,4,3],mF i<14/\mF i∈Jq:=by decide
theorem Jp:∀ i∈[0,1,2,4,3],∀ j∈[0,1,2,4,3],j≠i->mF i≠mF j:=by decide
theorem Jo(k:Int)(s:ByteArray)(ty lf:Int)(dA:Option Addr)(dn dc:Nat)(gA:Option Addr)(gn gc:Nat)(a b:Int)(w:World):Calls prog 37 #[.int .i64 k,.agg #[.string s,.int .i64 ty,.int .i64 lf,.slice dA dn dc,.slice gA gn gc],.int .i64 a,.int .i64 b] w λe w'=>∃ f,e = .returned (.agg #[.string ⟨#[120]⟩,.string s,.int .i64 ty,.int .i64 lf,.slice dA dn dc,.slice gA gn gc,.slice (some ⟨f,0,none⟩) 1 1,.slice none 0 0])/\OneAt w.heap.size w' f [.int .i64 a,.int .i64 b]/\Below w.heap.size w w':=by
 obtain⟨X,hX⟩:∃ X,w.heap.size=X:=⟨_,rfl⟩;obtain⟨w2,aj⟩:∃ w2,(w.alloc (.cells #[.string s,.int .i64 ty,.int .i64 lf,.slice dA dn dc,.slice gA gn gc] 68)).alloc (.cells #[.string ⟨#[]⟩,.string ⟨#[]⟩,.int .i64 0,.int .i64 0,.slice none 0 0,.slice none 0 0,.slice none 0 0,.slice none 0 0] 70)=w2:=⟨_,rfl⟩;have aM:w2.heap.size=X+2:=by rw[<-aj,<-hX]; simp
 have al:Hid (Below X w w2):=jq (by rw[<-aj,<-hX]; exact ((vQ _ _).alloc (bQ _) _).alloc (by simp) _);have aZ:w2.heap[X+1]?=some (.cells #[.string ⟨#[]⟩,.string ⟨#[]⟩,.int .i64 0,.int .i64 0,.slice none 0 0,.slice none 0 0,.slice none 0 0,.slice none 0 0] 70):=by
  rw[<-aj,<-hX]
  have:=heap_alloc_new (w.alloc (.cells #[.string s,.int .i64 ty,.int .i64 lf,.slice dA dn dc,.slice gA gn gc] 68)) (.cells #[.string ⟨#[]⟩,.string ⟨#[]⟩,.int .i64 0,.int .i64 0,.slice none 0 0,.slice none 0 0,.slice none 0 0,.slice none 0 0] 70)
  simpa using this
 have p0:w2.cell? ⟨X,0,none⟩=some (.string s):=by rw[<-aj,<-hX]; simp[go_sem]
 have p1:w2.cell? ⟨X,1,none⟩=some (.int .i64 ty):=by rw[<-aj,<-hX]; simp[go_sem]
 have p2:w2.cell? ⟨X,2,none⟩=some (.int .i64 lf):=by rw[<-aj,<-hX]; simp[go_sem]
 have p3:w2.cell? ⟨X,3,none⟩=some (.slice dA dn dc):=by rw[<-aj,<-hX]; simp[go_sem]
 have p4:w2.cell? ⟨X,4,none⟩=some (.slice gA gn gc):=by rw[<-aj,<-hX]; simp[go_sem]
 rw[hX];go_enter func37,ntmps37;go_wp2_with fail;clear aj hX;refine R5 λa0 bW=>?_;have lH:=jq bW;have Ln:=jq (show a0.eval (.tmp 5) = .pointer (some ⟨X,0,none⟩) by rw[bW]; rfl);have pY:=jq (show a0.eval (.tmp 2) = .int .i64 a by rw[bW]; rfl);have oV:=jq (show a0.eval (.tmp 3) = .int .i64 b by rw[bW]; rfl);have zC:=jq (show a0.eval (.tmp 8) = .pointer (some ⟨X+1,0,none⟩) by rw[bW]; rfl);have HM:=jq (show a0.tmps.size=14 by rw[bW]; rfl);clear bW;refine wp_region_any (by kernel_rfl) ?_;refine jg (w:=w2.drew) (D:=[0,1,2]) (A:=[]) (p:=3) (dst:=mF) (val:=qz s ty lf dA dn dc gA gn gc a b undef) (m:=14)
  (base:=ea a0 14 Jq) (jf (by kernel_rfl)) (by simp) (by simp) (iN (by kernel_rfl)) ?_
  (λi hi=>(yv i (by simp at hi |-; omega)).1) (λi hi j hj=>Jp i (by simp at hi |-; omega) j (by simp at hj |-; omega)) (λi hi=>dH (yv i (by simp at hi |-; omega)).2) ?_ ?_ _ _ _ (Held.start (λq hq=>uu q hq) HM.out)
 ·intro i hi aC;simp only[List.mem_cons,Qh,or_false] at hi;rcases hi with rfl | rfl | rfl
  all_goals first | (exfalso; simp at aC; done) | exact⟨_,rfl,rfl⟩
 ·intro i hi aC o ho a' hb bg;have k5':=(bn hb (j:=5) (by decide) (by decide)).trans Ln.out;have k2':=(bn hb (j:=2) (by decide) (by decide)).trans pY.out;have k3':=(bn hb (j:=3) (by decide) (by decide)).trans oV.out;have k8':=(bn hb (j:=8) (by decide) (by decide)).trans zC.out;simp[Act.eval] at k5' k2' k3' k8';simp only[List.mem_cons,Qh,or_false] at hi;rcases hi with rfl | rfl | rfl
  all_goals first
   | (exfalso; simp at aC; done)
   | (cases ho
      try simp[Act.eval,Region.binds,qz,mF] at bg
      refine .inl ⟨by simp[Region.wanted],λw' hw'=>?_⟩;subst hw';simp[Oper.quietAt,Oper.quietUpon,execOp,go_sem,qz,k5',k2',k3',k8',p0,p1,p2,p3,p4,bg])
 ·intro f listed a' hH hr;obtain⟨_,o,ho,az⟩:=mem_ready.1 hr
  cases ho
  have hG:=hH.good;have hval:=λi hi hl=>hG.val i hi hl;have b7:∀ k,({ on:=k,ground:=.data } : Edge)∈_->listed.getD k false=true:=λk hk=>az _ hk rfl;have av1:=hval 1 (by simp) (b7 1 (by simp));have av2:=hval 2 (by simp) (b7 2 (by simp));simp[Act.eval,qz,mF] at av1 av2;simp only[wpOp];simp[Region.wanted];refine .inl ?_;simp[Oper.wp,go_sem,av1,av2];refine (QF a b w2.drew).mono ?_;rintro e w3 ⟨f,rfl,hv,hb'⟩;have hb:Below w2.heap.size w2 w3:=(vQ w2.heap.size w2).drew.trans hb';have er:=hb.size;replace p0:=(cl hb (by omega)).trans p0;replace p1:=(cl hb (by omega)).trans p1;replace p2:=(cl hb (by omega)).trans p2;replace p3:=(cl hb (by omega)).trans p3;replace p4:=(cl hb (by omega)).trans p4;replace aZ:=(hb.block (X+1) (by omega)).trans aZ;have HV:Hid (w2.heap.size<=f/\f<w3.heap.size/\cR w3 f 0 [.int .i64 a,.int .i64 b]):=jq ⟨hv.lo,hv.hi,hv.cells⟩;have ar:=jq (al.out.trans (hb.mono (by omega)));clear hv hb hb';dsimp only;refine jg (w:=w3) (D:=[0,1,2,4,3]) (A:=[3]) (p:=5) (dst:=mF) (val:=qz s ty lf dA dn dc gA gn gc a b (.slice (some ⟨f,0,none⟩) 1 1)) (m:=14)
   (base:=ea a0 14 Jq) (jf (by kernel_rfl)) (by simp) (by simp) (iN (by kernel_rfl)) ?_
   (λi hi=>(yv i (by simp at hi |-; omega)).1) (λi hi j hj=>Jp i (by simp at hi |-; omega) j (by simp at hj |-; omega)) (λi hi=>dH (yv i (by simp at hi |-; omega)).2) ?_ ?_ _ _ _ (hH.act (D':=[0,1,2,4,3]) (val':=qz s ty lf dA dn dc gA gn gc a b (.slice (some ⟨f,0,none⟩) 1 1)) hr (by simp) (λi hi=>by simp at hi |-; omega) (λi hi=>by simp at hi; rcases hi with rfl | rfl | rfl <;> rfl) rfl (by simp[mF]) (λj hj=>Jp 3 (by simp) j (by simp at hj |-; omega) (by rintro rfl; simp at hj)) (dH (yv 3 (by simp)).2) (by simp))
  ·intro i hi aC;simp only[List.mem_cons,Qh,or_false] at hi;rcases hi with rfl | rfl | rfl | rfl | rfl
   all_goals first | (exfalso; simp at aC; done) | exact⟨_,rfl,rfl⟩
  ·intro i hi aC o ho a' hb bg;have k5':=(bn hb (j:=5) (by decide) (by decide)).trans Ln.out;have k2':=(bn hb (j:=2) (by decide) (by decide)).trans pY.out;have k3':=(bn hb (j:=3) (by decide) (by decide)).trans oV.out;have k8':=(bn hb (j:=8) (by decide) (by decide)).trans zC.out;simp[Act.eval] at k5' k2' k3' k8';simp only[List.mem_cons,Qh,or_false] at hi;rcases hi with rfl | rfl | rfl | rfl | rfl
   all_goals first
    | (exfalso; simp at aC; done)
    | (cases ho
       try simp[Act.eval,Region.binds,qz,mF] at bg
       refine .inl ⟨by simp[Region.wanted],λw' hw'=>?_⟩;subst hw';simp[Oper.quietAt,Oper.quietUpon,execOp,go_sem,qz,k5',k2',k3',k8',p0,p1,p2,p3,p4,bg])
  ·intro f listed a' hH hr;obtain⟨_,o,ho,az⟩:=mem_ready.1 hr
   cases ho
   have hG:=hH.good;have hval:=λi hi hl=>hG.val i hi hl;have b7:∀ k,({ on:=k,ground:=.data } : Edge)∈_->listed.getD k false=true:=λk hk=>az _ hk rfl;obtain⟨rfl,dB⟩:=hH.all hr (by kernel_rfl);have av4:=hval 4 (by simp) (dB 4 (by simp) (by simp));simp[Act.eval,qz,mF] at av4;have kx:=Held.frame (D:=[0,1,2,4,3]) (dst:=mF) (a0:=a0) (m:=14) hH HM.out (λi hi=>dB i (by simp at hi |-; omega) (by simp at hi; omega)) (λi hi=>(yv i (by simp at hi |-; omega)).1);simp only[wpOp];simp[Region.wanted];refine .inl ?_;have y0:w3.cell? ⟨X+1,0,none⟩=some (.string ⟨#[]⟩):=by simp[World.cell?,aZ]
   have z0:w3.frozen? ⟨X+1,0,none⟩=false:=by simp[World.frozen?,aZ]
   have y1:w3.cell? ⟨X+1,1,none⟩=some (.string ⟨#[]⟩):=by simp[World.cell?,aZ]
   have z1:w3.frozen? ⟨X+1,1,none⟩=false:=by simp[World.frozen?,aZ]
   have y2:w3.cell? ⟨X+1,2,none⟩=some (.int .i64 0):=by simp[World.cell?,aZ]
   have z2:w3.frozen? ⟨X+1,2,none⟩=false:=by simp[World.frozen?,aZ]
   have y3:w3.cell? ⟨X+1,3,none⟩=some (.int .i64 0):=by simp[World.cell?,aZ]
   have z3:w3.frozen? ⟨X+1,3,none⟩=false:=by simp[World.frozen?,aZ]
   have y4:w3.cell? ⟨X+1,4,none⟩=some (.slice none 0 0):=by simp[World.cell?,aZ]
   have z4:w3.frozen? ⟨X+1,4,none⟩=false:=by simp[World.frozen?,aZ]
   have y5:w3.cell? ⟨X+1,5,none⟩=some (.slice none 0 0):=by simp[World.cell?,aZ]
   have z5:w3.frozen? ⟨X+1,5,none⟩=false:=by simp[World.frozen?,aZ]
   have y6:w3.cell? ⟨X+1,6,none⟩=some (.slice none 0 0):=by simp[World.cell?,aZ]
   have z6:w3.frozen? ⟨X+1,6,none⟩=false:=by simp[World.frozen?,aZ]
   have y7:w3.cell? ⟨X+1,7,none⟩=some (.slice none 0 0):=by simp[World.cell?,aZ]
   have z7:w3.frozen? ⟨X+1,7,none⟩=false:=by simp[World.frozen?,aZ]
   have k8':=(bn hG.base (j:=8) (by decide) (by decide)).trans zC.out;simp[Act.eval] at k8';simp[Oper.wp,execOp,go_sem,av4,k8',y0,z0,y1,z1,y2,z2,y3,z3,y4,z4,y5,z5,y6,z6,y7,z7];refine⟨ut (λi hi=>?_) (by rw[Array.size_setIfInBounds]; exact hG.size),?_⟩
   ·by_cases hip:i=5
    ·subst hip;have hs:5<listed.size:=by rw[hG.size]; exact hi
     simp[Array.getD,hs]
    ·exact mO (dB i hi hip)
   ·rw[kx,lH.out];simp[lE,Act.put,qz,mF];clear kx hval b7 dB az hG hH;obtain⟨W',hW'⟩:∃ W',((((((((w3.setCell ⟨X+1,0,none⟩ (.string ⟨#[120]⟩)).setCell ⟨X+1,1,none⟩ (.string s)).setCell ⟨X+1,2,none⟩ (.int .i64 ty)).setCell ⟨X+1,3,none⟩ (.int .i64 lf)).setCell ⟨X+1,4,none⟩ (.slice dA dn dc)).setCell ⟨X+1,5,none⟩ (.slice gA gn gc)).setCell ⟨X+1,6,none⟩ (.slice (some ⟨f,0,none⟩) 1 1)).setCell ⟨X+1,7,none⟩ (.slice none 0 0))=W':=⟨_,rfl⟩;have pT:W'.heap.size=w3.heap.size:=by rw[<-hW']; simp
    have gN:∀ k,k≠X+1->W'.heap[k]?=w3.heap[k]?:=λk hk=>by rw[<-hW']; exact ((wQ _ _ _ k hk).trans ((wQ _ _ _ k hk).trans ((wQ _ _ _ k hk).trans ((wQ _ _ _ k hk).trans ((wQ _ _ _ k hk).trans ((wQ _ _ _ k hk).trans ((wQ _ _ _ k hk).trans (wQ _ _ _ k hk))))))))
    have aB:Hid (Below X w W'):=jq (by rw[<-hW']; exact ((((((((ar.out.setCell (p:=⟨X+1,0,none⟩) (by dsimp only; omega) _).setCell (p:=⟨X+1,1,none⟩) (by dsimp only; omega) _).setCell (p:=⟨X+1,2,none⟩) (by dsimp only; omega) _).setCell (p:=⟨X+1,3,none⟩) (by dsimp only; omega) _).setCell (p:=⟨X+1,4,none⟩) (by dsimp only; omega) _).setCell (p:=⟨X+1,5,none⟩) (by dsimp only; omega) _).setCell (p:=⟨X+1,6,none⟩) (by dsimp only; omega) _).setCell (p:=⟨X+1,7,none⟩) (by dsimp only; omega) _));have e0:W'.cell? ⟨X+1,0,none⟩=some (.string ⟨#[120]⟩):=by rw[<-hW']; simp[go_sem,y0]
    have e1:W'.cell? ⟨X+1,1,none⟩=some (.string s):=by rw[<-hW']; simp[go_sem,y1]
    have e2:W'.cell? ⟨X+1,2,none⟩=some (.int .i64 ty):=by rw[<-hW']; simp[go_sem,y2]
    have e3:W'.cell? ⟨X+1,3,none⟩=some (.int .i64 lf):=by rw[<-hW']; simp[go_sem,y3]
    have e4:W'.cell? ⟨X+1,4,none⟩=some (.slice dA dn dc):=by rw[<-hW']; simp[go_sem,y4]
    have e5:W'.cell? ⟨X+1,5,none⟩=some (.slice gA gn gc):=by rw[<-hW']; simp[go_sem,y5]
    have e6:W'.cell? ⟨X+1,6,none⟩=some (.slice (some ⟨f,0,none⟩) 1 1):=by rw[<-hW']; simp[go_sem,y6]
    have e7:W'.cell? ⟨X+1,7,none⟩=some (.slice none 0 0):=by rw[<-hW']; simp[go_sem,y7]
    rw[hW'];go_wp2_with fail;refine bodyPost_ret (v:=.agg #[.string ⟨#[120]⟩,.string s,.int .i64 ty,.int .i64 lf,.slice dA dn dc,.slice gA gn gc,.slice (some ⟨f,0,none⟩) 1 1,.slice none 0 0]) (by simp[results,results37,go_sem,e0,e1,e2,e3,e4,e5,e6,e7]) rfl ⟨_,rfl,⟨by have:=HV.out.1; omega,by have:=HV.out.2.1; omega,HV.out.2.2.move (gN f (by have:=HV.out.1; omega))⟩,aB.out⟩
theorem aDQ(e1 e2:List Value)(x:Np.WorldP)(w:World)(hu:rG w w.heap.size e1 x)(hv:rG w w.heap.size e2 x) :
 Calls prog 18 #[.agg e1.toArray,.agg e2.toArray] w λe w'=>e = .returned (.bool true)/\Below w.heap.size w w':=by
 obtain⟨JZ,zv1,s,dv1,iv1,rfl,aX,_,h1,z1,d1,i1⟩:=hu;obtain⟨lz,zv2,s2,dv2,iv2,rfl,eW,_,h2,z2,d2,i2⟩:=hv;obtain rfl:s2=s:=iM (by rw[aX,eW]);obtain⟨hosts,zones,⟨name,ty,life,data⟩,hints⟩:=x;dsimp only at h1 z1 d1 i1 h2 z2 d2 i2 aX eW |-;have H1:=jq h1;have Z1:=jq z1;have D1:=jq d1;have I1:=jq i1;have H2:=jq h2;have Z2:=jq z2;have D2:=jq d2;have I2:=jq i2;obtain⟨A1a,c1a,rfl,_,g9⟩:=ah h1;obtain⟨A1b,c1b,rfl,_,_⟩:=ah h2;obtain⟨A2a,c2a,rfl,_,_⟩:=ah z1;obtain⟨A2b,c2b,rfl,_,_⟩:=ah z2;obtain⟨A3a,c3a,rfl,_,_⟩:=ah d1;obtain⟨A3b,c3b,rfl,_,_⟩:=ah d2;obtain⟨A4a,c4a,rfl,_,Xx⟩:=ah i1;obtain⟨A4b,c4b,rfl,_,_⟩:=ah i2;clear h1 h2 z1 z2 d1 d2 i1 i2 aX eW;obtain⟨n1,aO⟩:∃ n,hosts.length=n:=⟨_,rfl⟩;obtain⟨n2,be⟩:∃ n,zones.length=n:=⟨_,rfl⟩;obtain⟨n3,cP⟩:∃ n,data.length=n:=⟨_,rfl⟩;obtain⟨n4,cW⟩:∃ n,hints.length=n:=⟨_,rfl⟩;rw[aO] at H1 H2;rw[be] at Z1 Z2;rw[cP] at D1 D2;rw[cW] at I1 I2;rw[aO,be,cP,cW];rw[aO] at g9;rw[cW] at Xx;have fB:=jq aO;have rt:=jq cW;clear aO be cP cW;have Ez:((n1:Int) != (n1:Int))=false:=by simp
 have hm4:((n4:Int) != (n4:Int))=false:=by simp
 obtain⟨X,hX⟩:∃ X,w.heap.size=X:=⟨_,rfl⟩;obtain⟨Y,hY⟩:∃ Y,X+1=Y:=⟨_,rfl⟩;obtain⟨W1,ai⟩:∃ W1,(w.alloc (.cells #[.slice A1a n1 c1a,.slice A2a n2 c2a,.string s2,.int .i64 ty,.int .i64 life,.slice A3a n3 c3a,.slice A4a n4 c4a] 34)).alloc (.cells #[.slice A1b n1 c1b,.slice A2b n2 c2b,.string s2,.int .i64 ty,.int .i64 life,.slice A3b n3 c3b,.slice A4b n4 c4b] 34)=W1:=⟨_,rfl⟩;have aG:Below w.heap.size w W1:=by rw[<-ai]; exact ((vQ _ _).alloc (bQ _) _).alloc (by simp) _
 have jA:W1.heap.size=w.heap.size+2:=by rw[<-ai]; simp
 have k0:W1.cell? ⟨X,0,none⟩=some (.slice A1a n1 c1a):=by rw[<-ai,<-hX]; simp[go_sem]
 have k1:W1.cell? ⟨X,1,none⟩=some (.slice A2a n2 c2a):=by rw[<-ai,<-hX]; simp[go_sem]
 have k2:W1.cell? ⟨X,2,none⟩=some (.string s2):=by rw[<-ai,<-hX]; simp[go_sem]
 have k3:W1.cell? ⟨X,3,none⟩=some (.int .i64 ty):=by rw[<-ai,<-hX]; simp[go_sem]
 have k4:W1.cell? ⟨X,4,none⟩=some (.int .i64 life):=by rw[<-ai,<-hX]; simp[go_sem]
 have k5:W1.cell? ⟨X,5,none⟩=some (.slice A3a n3 c3a):=by rw[<-ai,<-hX]; simp[go_sem]
 have k6:W1.cell? ⟨X,6,none⟩=some (.slice A4a n4 c4a):=by rw[<-ai,<-hX]; simp[go_sem]
 have j0:W1.cell? ⟨Y,0,none⟩=some (.slice A1b n1 c1b):=by rw[<-ai,<-hY,<-hX]; simp[go_sem]
 have j1:W1.cell? ⟨Y,1,none⟩=some (.slice A2b n2 c2b):=by rw[<-ai,<-hY,<-hX]; simp[go_sem]
 have j2:W1.cell? ⟨Y,2,none⟩=some (.string s2):=by rw[<-ai,<-hY,<-hX]; simp[go_sem]
 have j3:W1.cell? ⟨Y,3,none⟩=some (.int .i64 ty):=by rw[<-ai,<-hY,<-hX]; simp[go_sem]
 have j4:W1.cell? ⟨Y,4,none⟩=some (.int .i64 life):=by rw[<-ai,<-hY,<-hX]; simp[go_sem]
 have j5:W1.cell? ⟨Y,5,none⟩=some (.slice A3b n3 c3b):=by rw[<-ai,<-hY,<-hX]; simp[go_sem]
 have j6:W1.cell? ⟨Y,6,none⟩=some (.slice A4b n4 c4b):=by rw[<-ai,<-hY,<-hX]; simp[go_sem]
 rw[hX] at aG jA H1 H2 Z1 Z2 D1 D2 I1 I2 |-;have aB:=jq aG;clear aG;go_enter func18,ntmps18;go_wp2_with fail;refine (Rk _ _ zones _ ((Z1.out.keep fV aB.out).more fW (by omega)) ((Z2.out.keep fV aB.out).more fW (by omega))).mono ?_;rintro e w2 ⟨rfl,ab⟩;have aM:=ab.size;replace k0:=(cl ab (by omega)).trans k0;replace k1:=(cl ab (by omega)).trans k1;replace k2:=(cl ab (by omega)).trans k2;replace k3:=(cl ab (by omega)).trans k3;replace k4:=(cl ab (by omega)).trans k4;replace k5:=(cl ab (by omega)).trans k5;replace k6:=(cl ab (by omega)).trans k6;replace j0:=(cl ab (by omega)).trans j0;replace j1:=(cl ab (by omega)).trans j1;replace j2:=(cl ab (by omega)).trans j2;replace j3:=(cl ab (by omega)).trans j3;replace j4:=(cl ab (by omega)).trans j4;replace j5:=(cl ab (by omega)).trans j5;replace j6:=(cl ab (by omega)).trans j6;have al:=jq (aB.out.trans (ab.mono (by omega)));clear ab ai hX;go_wp2_with fail;refine (Rl s2 s2 ty life ty life _ _ data data _ ((D1.out.keep cB al.out).more cZ (by omega)) ((D2.out.keep cB al.out).more cZ (by omega))).mono ?_;have OG:decide (s2=s2/\ty=ty/\life=life/\data=data)=true:=by simp
 rw[OG];rintro e w3 ⟨rfl,ag⟩;have er:=ag.size;replace k0:=(cl ag (by omega)).trans k0;replace k1:=(cl ag (by omega)).trans k1;replace k2:=(cl ag (by omega)).trans k2;replace k3:=(cl ag (by omega)).trans k3;replace k4:=(cl ag (by omega)).trans k4;replace k5:=(cl ag (by omega)).trans k5;replace k6:=(cl ag (by omega)).trans k6;replace j0:=(cl ag (by omega)).trans j0;replace j1:=(cl ag (by omega)).trans j1;replace j2:=(cl ag (by omega)).trans j2;replace j3:=(cl ag (by omega)).trans j3;replace j4:=(cl ag (by omega)).trans j4;replace j5:=(cl ag (by omega)).trans j5;replace j6:=(cl ag (by omega)).trans j6;have ar:=jq (al.out.trans (ag.mono (by omega)));clear ag OG;go_wp2_with fail;go_loopw [5] (λi wr=>∃ (k:Nat),k<=n1/\i = .int .i64 k/\Hid (Below w3.heap.size w3 wr)) (λi _=>n1 - (intOf i).toNat)
 case atStart=>exact⟨0,jQ _,rfl,jq (vQ _ _)⟩
 case round=>
  obtain⟨k,hk,rfl,bO⟩:=hrel;have am:=bO.out.size;have HB:=jq (ar.out.trans (bO.out.mono (by omega)));have a0:=(cl bO.out (by omega)).trans k0;have b0:=(cl bO.out (by omega)).trans j0;by_cases aa:k<n1
  ·obtain⟨x,hx⟩:∃ x,hosts[k]?=some x:=⟨_,aQ (by rw[fB.out]; exact aa)⟩;obtain⟨b,o,t,rfl,bS,ht,_,f0,f1,f2⟩:=rZ (H1.out.keep fw HB.out) hx;obtain⟨b',o',t',rfl,vR,ht',_,g0,g1,g2⟩:=rZ (H2.out.keep fw HB.out) hx;obtain rfl:t'=t:=iM (by rw[ht,ht']);have bH:(0:Int)<=(k:Int):=by omega
   have bG:(k:Int)<(n1:Int):=by omega
   have tX:∀ w,(binOp .neq 64 (.agg #[.string t',.int .i64 x.addr,.int .i64 x.owner]) (.agg #[.string t',.int .i64 x.addr,.int .i64 x.owner])).run prog w = .ok (.bool false) w:=λw=>by rw[ajY]; simp
   clear hx ht ht';go_wp2_with fail;go_quiet (fail);go_wp2_with fail;go_roundw
   case rel=>exact⟨k+1,by omega,by go_num,jq (below_drewN bO.out _)⟩
   case measure=>simp[intOf] <;> omega
  ·clear hk;go_wp2_with fail;obtain⟨wo,rfl⟩:∃ wo,wo=wr:=⟨_,rfl⟩;have hXY:X+2<=wo.heap.size:=by omega
   clear k0 j0;have k6':=(cl bO.out (by omega)).trans k6;have j6':=(cl bO.out (by omega)).trans j6;clear aa;go_loopw [6] (λi wr=>∃ (k:Nat),k<=n4/\i = .int .i64 k/\Hid (Below wo.heap.size wo wr)) (λi _=>n4 - (intOf i).toNat)
   case atStart=>exact⟨0,jQ _,rfl,jq (vQ _ _)⟩
   case round=>
    obtain⟨q,hq,rfl,rc⟩:=hrel;have kH:=rc.out.size;have aVY:X+2<=wr.heap.size:=by omega
    have HC:=jq (HB.out.trans (rc.out.mono (by omega)));have a3:=(cl rc.out (by omega)).trans k6';have b3:=(cl rc.out (by omega)).trans j6';by_cases tR:q<n4
    ·obtain⟨x,hx⟩:∃ x,hints[q]?=some x:=⟨_,aQ (by rw[rt.out]; exact tR)⟩;obtain⟨b,o,rfl,bS,f0⟩:=Kj (I1.out.keep kR HC.out) hx;obtain⟨b',o',rfl,vR,g0⟩:=Kj (I2.out.keep kR HC.out) hx;have bH:(0:Int)<=(q:Int):=by omega
     have bG:(q:Int)<(n4:Int):=by omega
     have hxx:(x != x)=false:=by simp
     clear hx;go_wp2_with fail;go_quiet (fail);go_wp2_with fail;go_roundw
     case rel=>exact⟨q+1,by omega,by go_num,jq (below_drewN rc.out _)⟩
     case measure=>simp[intOf] <;> omega
    ·go_wp2_with fail;go_ret;exact⟨rfl,HC.out⟩
structure ExAt(n:Nat)(w:World)(e:List Value)(hb cb db ib v1 v2 v3:Nat):Prop where
 val:e = [.slice (some ⟨hb,0,none⟩) 2 2,.slice (some ⟨cb,0,none⟩) 3 3,.string ⟨#[46]⟩,.int .i64 6,.int .i64 60,.slice (some ⟨db,0,none⟩) 1 1,.slice (some ⟨ib,0,none⟩) 1 1,.int .i64 0,.int .i64 40]
 hosts:OneAt n w hb [.string ⟨#[97,46,110,115]⟩,.int .i64 1,.int .i64 0,.string ⟨#[98,46,110,115]⟩,.int .i64 2,.int .i64 0]
 copies:OneAt n w cb [.int .i64 0,.int .i64 0,.int .i64 10,.string ⟨#[120]⟩,.slice (some ⟨v1,0,none⟩) 2 2,.int .i64 0,.int .i64 10,.int .i64 30,.string ⟨#[120]⟩,.slice (some ⟨v2,0,none⟩) 2 2,.int .i64 1,.int .i64 5,.int .i64 20,.string ⟨#[120]⟩,.slice (some ⟨v3,0,none⟩) 2 2]
 obj:w.heap[cb]?=some (.cells #[.int .i64 0,.int .i64 0,.int .i64 10,.string ⟨#[120]⟩,.slice (some ⟨v1,0,none⟩) 2 2,.int .i64 0,.int .i64 10,.int .i64 30,.string ⟨#[120]⟩,.slice (some ⟨v2,0,none⟩) 2 2,.int .i64 1,.int .i64 5,.int .i64 20,.string ⟨#[120]⟩,.slice (some ⟨v3,0,none⟩) 2 2] 58)
 data:OneAt n w db [.string ⟨#[]⟩,.int .i64 1,.int .i64 1]
 hints:OneAt n w ib [.int .i64 1]
 ne:hb≠cb/\db≠cb/\ib≠cb
 z1:∀ M:Nat->Prop,(∀ k,M k->k<n\/k=cb)->SlR bC 5 (bj w M) w.heap.size (.slice (some ⟨v1,0,none⟩) 2 2) (Np.dl 1).sets
 z2:∀ M:Nat->Prop,(∀ k,M k->k<n\/k=cb)->SlR bC 5 (bj w M) w.heap.size (.slice (some ⟨v2,0,none⟩) 2 2) (Np.dl 2).sets
 z3:∀ M:Nat->Prop,(∀ k,M k->k<n\/k=cb)->SlR bC 5 (bj w M) w.heap.size (.slice (some ⟨v3,0,none⟩) 2 2) (Np.dl 1).sets
theorem WN(w:World):Calls prog 36 #[] w λe w'=>∃ e' hb cb db ib v1 v2 v3,e = .returned (.agg e'.toArray)/\ExAt w.heap.size w' e' hb cb db ib v1 v2 v3/\Below w.heap.size w w':=by
 obtain⟨X,hX⟩:∃ X,w.heap.size=X:=⟨_,rfl⟩;obtain⟨w1,ak⟩:∃ w1,((w.alloc (.cells #[.slice none 0 0,.slice none 0 0,.string ⟨#[]⟩,.int .i64 0,.int .i64 0,.slice none 0 0,.slice none 0 0,.int .i64 0,.int .i64 0] 29)).alloc (.cells #[.string ⟨#[]⟩,.int .i64 1,.int .i64 1] 96)).alloc (.cells #[.string ⟨#[46]⟩,.int .i64 6,.int .i64 60,.slice (some ⟨X+1,0,none⟩) 1 1] 26)=w1:=⟨_,rfl⟩;have bL:w1.heap.size=X+3:=by rw[<-ak,<-hX]; simp
 have ay:Hid (Below X w w1):=jq (by rw[<-ak,<-hX]; exact (((vQ _ _).alloc (bQ _) _).alloc (by simp) _).alloc (by simp <;> omega) _);have aZ:w1.heap[X]?=some (.cells #[.slice none 0 0,.slice none 0 0,.string ⟨#[]⟩,.int .i64 0,.int .i64 0,.slice none 0 0,.slice none 0 0,.int .i64 0,.int .i64 0] 29):=by
  rw[<-ak,<-hX];exact (Below.heap_alloc _ _ _ (by simp <;> omega)).trans ((Below.heap_alloc _ _ _ (by simp)).trans (heap_alloc_new _ _))
 have eU:cR w1 (X+1) 0 [.string ⟨#[]⟩,.int .i64 1,.int .i64 1]:=by
  rw[<-ak,<-hX];exact (lk (n:=w.heap.size+1) [.string ⟨#[]⟩,.int .i64 1,.int .i64 1] 96 (by simp) rfl).move (Below.heap_alloc _ _ _ (by simp))
 have oB:cR w1 (X+1+1) 0 [.string ⟨#[46]⟩,.int .i64 6,.int .i64 60,.slice (some ⟨X+1,0,none⟩) 1 1]:=by
  rw[<-ak];exact lk _ _ (by simp[hX]) rfl
 rw[hX];go_enter func36,ntmps36;go_wp2_with fail
 try rw[ak]
 clear ak;refine (uz 1 w1).mono ?_;rintro e w2 ⟨v1,_,_,rfl,JZ,hb⟩;have aM:=hb.size;replace aZ:=(hb.block X (by omega)).trans aZ;replace eU:=eU.move (hb.block (X+1) (by omega));replace oB:=oB.move (hb.block (X+1+1) (by omega));have al:=jq (ay.out.trans (hb.mono (by omega)));have gq:=jq JZ.around;have la:=jq hb;clear JZ hb;go_wp2_with fail;refine (uz 2 w2).mono ?_;rintro e w3 ⟨v2,_,_,rfl,lz,hb⟩;have er:=hb.size;replace aZ:=(hb.block X (by omega)).trans aZ;replace eU:=eU.move (hb.block (X+1) (by omega));replace oB:=oB.move (hb.block (X+1+1) (by omega));have ar:=jq (al.out.trans (hb.mono (by omega)));have jN:=jq lz.around;have zX:=jq hb;clear lz hb;go_wp2_with fail;refine (uz 1 w3).mono ?_;rintro e w4 ⟨v3,_,_,rfl,PI,hb⟩;have gC:=hb.size;replace aZ:=(hb.block X (by omega)).trans aZ;replace eU:=eU.move (hb.block (X+1) (by omega));replace oB:=oB.move (hb.block (X+1+1) (by omega));have bq:=jq (ar.out.trans (hb.mono (by omega)));have mx:=jq PI.around;have zY:=jq hb;clear PI hb;obtain⟨w5,aP⟩:∃ w5,w4.alloc (.cells #[.int .i64 0,.int .i64 0,.int .i64 10,.string ⟨#[120]⟩,.slice (some ⟨v1,0,none⟩) 2 2,.int .i64 0,.int .i64 10,.int .i64 30,.string ⟨#[120]⟩,.slice (some ⟨v2,0,none⟩) 2 2,.int .i64 1,.int .i64 5,.int .i64 20,.string ⟨#[120]⟩,.slice (some ⟨v3,0,none⟩) 2 2] 58)=w5:=⟨_,rfl⟩;obtain⟨w6,bK⟩:∃ w6,w5.alloc (.cells #[.string ⟨#[97,46,110,115]⟩,.int .i64 1,.int .i64 0,.string ⟨#[98,46,110,115]⟩,.int .i64 2,.int .i64 0] 64)=w6:=⟨_,rfl⟩;obtain⟨cb,gg⟩:∃ cb,w4.heap.size=cb:=⟨_,rfl⟩;have Kc:w5.heap.size=cb+1:=by rw[<-aP,<-gg]; simp
 have il:w6.heap.size=cb+2:=by rw[<-bK,World.size_alloc,Kc]
 have Jd:cR w6 cb 0 [.int .i64 0,.int .i64 0,.int .i64 10,.string ⟨#[120]⟩,.slice (some ⟨v1,0,none⟩) 2 2,.int .i64 0,.int .i64 10,.int .i64 30,.string ⟨#[120]⟩,.slice (some ⟨v2,0,none⟩) 2 2,.int .i64 1,.int .i64 5,.int .i64 20,.string ⟨#[120]⟩,.slice (some ⟨v3,0,none⟩) 2 2]:=by
  rw[<-bK];exact (lk _ _ gg aP.symm).move (Below.heap_alloc _ _ _ (by omega))
 have qG:w6.heap[cb]?=some (.cells #[.int .i64 0,.int .i64 0,.int .i64 10,.string ⟨#[120]⟩,.slice (some ⟨v1,0,none⟩) 2 2,.int .i64 0,.int .i64 10,.int .i64 30,.string ⟨#[120]⟩,.slice (some ⟨v2,0,none⟩) 2 2,.int .i64 1,.int .i64 5,.int .i64 20,.string ⟨#[120]⟩,.slice (some ⟨v3,0,none⟩) 2 2] 58):=by
  rw[<-bK];refine (Below.heap_alloc _ _ _ (by omega)).trans ?_;rw[<-aP,<-gg];exact heap_alloc_new _ _
 have Ju:cR w6 (cb+1) 0 [.string ⟨#[97,46,110,115]⟩,.int .i64 1,.int .i64 0,.string ⟨#[98,46,110,115]⟩,.int .i64 2,.int .i64 0]:=lk _ _ Kc bK.symm;have yo:Below w4.heap.size w4 w6:=by rw[<-bK,<-aP]; exact ((vQ _ _).alloc (bQ _) _).alloc (by simp) _
 replace aZ:=(yo.block X (by omega)).trans aZ;replace eU:=eU.move (yo.block (X+1) (by omega));replace oB:=oB.move (yo.block (X+1+1) (by omega));have ca:=jq (bq.out.trans (yo.mono (by omega)));have TJ:=jq yo;clear yo;have a0:w6.cell? ⟨X+1+1,0,none⟩=some (.string ⟨#[46]⟩):=oB 0 _ rfl;have a1:w6.cell? ⟨X+1+1,1,none⟩=some (.int .i64 6):=oB 1 _ rfl;have a2:w6.cell? ⟨X+1+1,2,none⟩=some (.int .i64 60):=oB 2 _ rfl;have a3:w6.cell? ⟨X+1+1,3,none⟩=some (.slice (some ⟨X+1,0,none⟩) 1 1):=oB 3 _ rfl;obtain⟨w7,gS⟩:∃ w7,w6.alloc (.cells #[.int .i64 1] 3)=w7:=⟨_,rfl⟩;have mL:w7.heap.size=cb+3:=by rw[<-gS,World.size_alloc,il]
 have tD:Below w6.heap.size w6 w7:=by rw[<-gS]; exact (vQ _ _).alloc (bQ _) _
 have YH:cR w7 (cb+2) 0 [.int .i64 1]:=lk _ _ il gS.symm;replace Jd:=Jd.move (tD.block cb (by omega));replace Ju:=Ju.move (tD.block (cb+1) (by omega));replace aZ:=(tD.block X (by omega)).trans aZ;replace eU:=eU.move (tD.block (X+1) (by omega));have dJ:=jq (ca.out.trans (tD.mono (by omega)));have s6:=jq (TJ.out.trans (tD.mono (by omega)));have Sq:=jq tD;clear tD;have y0:w7.cell? ⟨X,0,none⟩=some (.slice none 0 0):=by simp[World.cell?,aZ]
 have z0:w7.frozen? ⟨X,0,none⟩=false:=by simp[World.frozen?,aZ]
 have y1:w7.cell? ⟨X,1,none⟩=some (.slice none 0 0):=by simp[World.cell?,aZ]
 have z1:w7.frozen? ⟨X,1,none⟩=false:=by simp[World.frozen?,aZ]
 have y2:w7.cell? ⟨X,2,none⟩=some (.string ⟨#[]⟩):=by simp[World.cell?,aZ]
 have z2:w7.frozen? ⟨X,2,none⟩=false:=by simp[World.frozen?,aZ]
 have y3:w7.cell? ⟨X,3,none⟩=some (.int .i64 0):=by simp[World.cell?,aZ]
 have z3:w7.frozen? ⟨X,3,none⟩=false:=by simp[World.frozen?,aZ]
 have y4:w7.cell? ⟨X,4,none⟩=some (.int .i64 0):=by simp[World.cell?,aZ]
 have z4:w7.frozen? ⟨X,4,none⟩=false:=by simp[World.frozen?,aZ]
 have y5:w7.cell? ⟨X,5,none⟩=some (.slice none 0 0):=by simp[World.cell?,aZ]
 have z5:w7.frozen? ⟨X,5,none⟩=false:=by simp[World.frozen?,aZ]
 have y6:w7.cell? ⟨X,6,none⟩=some (.slice none 0 0):=by simp[World.cell?,aZ]
 have z6:w7.frozen? ⟨X,6,none⟩=false:=by simp[World.frozen?,aZ]
 have y7:w7.cell? ⟨X,7,none⟩=some (.int .i64 0):=by simp[World.cell?,aZ]
 have z7:w7.frozen? ⟨X,7,none⟩=false:=by simp[World.frozen?,aZ]
 have y8:w7.cell? ⟨X,8,none⟩=some (.int .i64 0):=by simp[World.cell?,aZ]
 have z8:w7.frozen? ⟨X,8,none⟩=false:=by simp[World.frozen?,aZ]
 go_wp2_with fail;obtain⟨W,hW⟩:∃ W,(((((((((w7.setCell ⟨X,0,none⟩ (.slice (some ⟨cb+1,0,none⟩) 2 2)).setCell ⟨X,1,none⟩ (.slice (some ⟨cb,0,none⟩) 3 3)).setCell ⟨X,2,none⟩ (.string ⟨#[46]⟩)).setCell ⟨X,3,none⟩ (.int .i64 6)).setCell ⟨X,4,none⟩ (.int .i64 60)).setCell ⟨X,5,none⟩ (.slice (some ⟨X+1,0,none⟩) 1 1)).setCell ⟨X,6,none⟩ (.slice (some ⟨cb+2,0,none⟩) 1 1)).setCell ⟨X,7,none⟩ (.int .i64 0)).setCell ⟨X,8,none⟩ (.int .i64 40))=W:=⟨_,rfl⟩;have pT:W.heap.size=cb+3:=by rw[<-hW,<-mL]; simp
 have gN:∀ k,k≠X->W.heap[k]?=w7.heap[k]?:=λk hk=>by rw[<-hW]; exact ((wQ _ _ _ k hk).trans ((wQ _ _ _ k hk).trans ((wQ _ _ _ k hk).trans ((wQ _ _ _ k hk).trans ((wQ _ _ _ k hk).trans ((wQ _ _ _ k hk).trans ((wQ _ _ _ k hk).trans ((wQ _ _ _ k hk).trans (wQ _ _ _ k hk)))))))))
 have ij:W.os=w7.os/\W.tape=w7.tape/\W.output=w7.output:=by rw[<-hW]; simp[World.setCell]
 have aB:Hid (Below X w W):=jq (by rw[<-hW]; exact (((((((((dJ.out.setCell (p:=⟨X,0,none⟩) (bQ _) _).setCell (p:=⟨X,1,none⟩) (bQ _) _).setCell (p:=⟨X,2,none⟩) (bQ _) _).setCell (p:=⟨X,3,none⟩) (bQ _) _).setCell (p:=⟨X,4,none⟩) (bQ _) _).setCell (p:=⟨X,5,none⟩) (bQ _) _).setCell (p:=⟨X,6,none⟩) (bQ _) _).setCell (p:=⟨X,7,none⟩) (bQ _) _).setCell (p:=⟨X,8,none⟩) (bQ _) _));have e0:W.cell? ⟨X,0,none⟩=some (.slice (some ⟨cb+1,0,none⟩) 2 2):=by rw[<-hW]; simp[go_sem,y0]
 have e1:W.cell? ⟨X,1,none⟩=some (.slice (some ⟨cb,0,none⟩) 3 3):=by rw[<-hW]; simp[go_sem,y1]
 have e2:W.cell? ⟨X,2,none⟩=some (.string ⟨#[46]⟩):=by rw[<-hW]; simp[go_sem,y2]
 have e3:W.cell? ⟨X,3,none⟩=some (.int .i64 6):=by rw[<-hW]; simp[go_sem,y3]
 have e4:W.cell? ⟨X,4,none⟩=some (.int .i64 60):=by rw[<-hW]; simp[go_sem,y4]
 have e5:W.cell? ⟨X,5,none⟩=some (.slice (some ⟨X+1,0,none⟩) 1 1):=by rw[<-hW]; simp[go_sem,y5]
 have e6:W.cell? ⟨X,6,none⟩=some (.slice (some ⟨cb+2,0,none⟩) 1 1):=by rw[<-hW]; simp[go_sem,y6]
 have e7:W.cell? ⟨X,7,none⟩=some (.int .i64 0):=by rw[<-hW]; simp[go_sem,y7]
 have e8:W.cell? ⟨X,8,none⟩=some (.int .i64 40):=by rw[<-hW]; simp[go_sem,y8]
 rw[hW];refine bodyPost_ret (v:=.agg #[.slice (some ⟨cb+1,0,none⟩) 2 2,.slice (some ⟨cb,0,none⟩) 3 3,.string ⟨#[46]⟩,.int .i64 6,.int .i64 60,.slice (some ⟨X+1,0,none⟩) 1 1,.slice (some ⟨cb+2,0,none⟩) 1 1,.int .i64 0,.int .i64 40]) (by simp[results,results36,go_sem,e0,e1,e2,e3,e4,e5,e6,e7,e8]) rfl ⟨_,cb+1,cb,X+1,cb+2,v1,v2,v3,rfl,⟨rfl,⟨by omega,by omega,Ju.move (gN _ (by omega))⟩,⟨by omega,by omega,Jd.move (gN _ (by omega))⟩,(gN cb (by omega)).trans ((Sq.out.block cb (by omega)).trans qG),⟨by omega,by omega,eU.move (gN _ (by omega))⟩,⟨by omega,by omega,YH.move (gN _ (by omega))⟩,by omega,?_,?_,?_⟩,aB.out⟩
 all_goals intro M hM
 ·have h1:=gq.out.later (M:=λk=>M k\/k=X) aN bN (zX.out.trans ((zY.out.mono (by omega)).trans (s6.out.mono (by omega)))) (λk e=>by
   rcases e with e | e
   ·have:=hM k e; omega
   ·omega)
  exact (Leaves'.slr (M:=λk=>M k\/k=X) (M':=λk=>M k\/k=X) aN jc bN ⟨ij.1,ij.2.1,ij.2.2,by omega,λi hi hm=>⟨hm,gN i (λe=>hm (.inr e))⟩⟩ h1).sans jc (λk e=>.inl e)
 ·have h1:=jN.out.later (M:=λk=>M k\/k=X) aN bN (zY.out.trans (s6.out.mono (by omega))) (λk e=>by
   rcases e with e | e
   ·have:=hM k e; omega
   ·omega)
  exact (Leaves'.slr (M:=λk=>M k\/k=X) (M':=λk=>M k\/k=X) aN jc bN ⟨ij.1,ij.2.1,ij.2.2,by omega,λi hi hm=>⟨hm,gN i (λe=>hm (.inr e))⟩⟩ h1).sans jc (λk e=>.inl e)
 ·have h1:=mx.out.later (M:=λk=>M k\/k=X) aN bN s6.out (λk e=>by
   rcases e with e | e
   ·have:=hM k e; omega
   ·omega)
  exact (Leaves'.slr (M:=λk=>M k\/k=X) (M':=λk=>M k\/k=X) aN jc bN ⟨ij.1,ij.2.1,ij.2.2,by omega,λi hi hm=>⟨hm,gN i (λe=>hm (.inr e))⟩⟩ h1).sans jc (λk e=>.inl e)
theorem ExAt.rhist{n:Nat}{w:World}{e:List Value}{hb cb db ib v1 v2 v3:Nat}(h:ExAt n w e hb cb db ib v1 v2 v3):bA w w.heap.size e Np.exH:=by
 have hF:∀ k,(λ_:Nat=>False) k->k<n\/k=cb:=λ_ e=>e.elim;exact⟨_,_,⟨#[46]⟩,_,_,h.val,rfl,by decide,E3 (R:=gb) [.string ⟨#[97,46,110,115]⟩,.int .i64 1,.int .i64 0] [.string ⟨#[98,46,110,115]⟩,.int .i64 2,.int .i64 0] rfl h.hosts.hi h.hosts.cells ⟨⟨#[97,46,110,115]⟩,rfl,by decide,rfl⟩ ⟨⟨#[98,46,110,115]⟩,rfl,by decide,rfl⟩,Kp (R:=dD) [.int .i64 0,.int .i64 0,.int .i64 10,.string ⟨#[120]⟩,.slice (some ⟨v1,0,none⟩) 2 2] [.int .i64 0,.int .i64 10,.int .i64 30,.string ⟨#[120]⟩,.slice (some ⟨v2,0,none⟩) 2 2] [.int .i64 1,.int .i64 5,.int .i64 20,.string ⟨#[120]⟩,.slice (some ⟨v3,0,none⟩) 2 2] rfl rfl h.copies.hi h.copies.cells ⟨⟨#[120]⟩,_,rfl,by decide,((h.z1 _ hF).all jc),rfl⟩ ⟨⟨#[120]⟩,_,rfl,by decide,((h.z2 _ hF).all jc),rfl⟩ ⟨⟨#[120]⟩,_,rfl,by decide,((h.z3 _ hF).all jc),rfl⟩,pU (R:=cr) [.string ⟨#[]⟩,.int .i64 1,.int .i64 1] h.data.hi h.data.cells ⟨⟨#[]⟩,rfl,by decide,rfl⟩,pU (R:=gJ) [.int .i64 1] h.hints.hi h.hints.cells rfl⟩
theorem ExAt.bad{n:Nat}{w W W':World}{e:List Value}{hb cb db ib v1 v2 v3:Nat}(h:ExAt n w e hb cb db ib v1 v2 v3)(hW:Below w.heap.size w W)(ht:Turned cb W W')(ho:W'.heap[cb]?=some (.cells #[.int .i64 0,.int .i64 0,.int .i64 10,.string ⟨#[120]⟩,.slice (some ⟨v1,0,none⟩) 2 2,.int .i64 0,.int .i64 9,.int .i64 30,.string ⟨#[120]⟩,.slice (some ⟨v2,0,none⟩) 2 2,.int .i64 1,.int .i64 5,.int .i64 20,.string ⟨#[120]⟩,.slice (some ⟨v3,0,none⟩) 2 2] 58)):bA W' W'.heap.size e Np.yd:=by
 have hz:w.heap.size<=W'.heap.size:=by rw[ht.size]; exact hW.size
 have hk:∀ k,k<w.heap.size->k≠cb->W'.heap[k]?=w.heap[k]?:=λk h1 h2=>(ht.block k h2).trans (hW.block k h1);have hc:cR W' cb 0 [.int .i64 0,.int .i64 0,.int .i64 10,.string ⟨#[120]⟩,.slice (some ⟨v1,0,none⟩) 2 2,.int .i64 0,.int .i64 9,.int .i64 30,.string ⟨#[120]⟩,.slice (some ⟨v2,0,none⟩) 2 2,.int .i64 1,.int .i64 5,.int .i64 20,.string ⟨#[120]⟩,.slice (some ⟨v3,0,none⟩) 2 2]:=λj v hj=>by
  unfold World.cell?;rw[ho,Nat.zero_add];simpa using hj
 have hz':∀ {k:Int} {v:Nat},(∀ M:Nat->Prop,(∀ k,M k->k<n\/k=cb)->SlR bC 5 (bj w M) w.heap.size (.slice (some ⟨v,0,none⟩) 2 2) (Np.dl k).sets)->SlR bC 5 W' W'.heap.size (.slice (some ⟨v,0,none⟩) 2 2) (Np.dl k).sets:=λh1=>
  M0 (p:=λk=>k<n\/k=cb) (λM hM=>MZ h1 aN bN hW (λk e=>.inl (hM k e))) aN jc bN (.inr rfl) ht
 exact⟨_,_,⟨#[46]⟩,_,_,h.val,rfl,by decide,E3 (R:=gb) [.string ⟨#[97,46,110,115]⟩,.int .i64 1,.int .i64 0] [.string ⟨#[98,46,110,115]⟩,.int .i64 2,.int .i64 0] rfl (lQ h.hosts.hi hz) (h.hosts.cells.move (hk hb h.hosts.hi h.ne.1)) ⟨⟨#[97,46,110,115]⟩,rfl,by decide,rfl⟩ ⟨⟨#[98,46,110,115]⟩,rfl,by decide,rfl⟩,Kp (R:=dD) [.int .i64 0,.int .i64 0,.int .i64 10,.string ⟨#[120]⟩,.slice (some ⟨v1,0,none⟩) 2 2] [.int .i64 0,.int .i64 9,.int .i64 30,.string ⟨#[120]⟩,.slice (some ⟨v2,0,none⟩) 2 2] [.int .i64 1,.int .i64 5,.int .i64 20,.string ⟨#[120]⟩,.slice (some ⟨v3,0,none⟩) 2 2] rfl rfl (lQ h.copies.hi hz) hc ⟨⟨#[120]⟩,_,rfl,by decide,(hz' h.z1),rfl⟩ ⟨⟨#[120]⟩,_,rfl,by decide,(hz' h.z2),rfl⟩ ⟨⟨#[120]⟩,_,rfl,by decide,(hz' h.z3),rfl⟩,pU (R:=cr) [.string ⟨#[]⟩,.int .i64 1,.int .i64 1] (lQ h.data.hi hz) (h.data.cells.move (hk db h.data.hi h.ne.2.1)) ⟨⟨#[]⟩,rfl,by decide,rfl⟩,pU (R:=gJ) [.int .i64 1] (lQ h.hints.hi hz) (h.hints.cells.move (hk ib h.hints.hi h.ne.2.2)) rfl⟩
end
end Go.Proofs.YtbfbobfbgabjiaaGreatDoor
