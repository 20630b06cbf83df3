/- Parts of the proof. No condition. -/
import Derived.RangeFuncRecord
import Derived.RangeFuncSeq
import Derived.RangeFuncBox
import Derived.WalkKit
import Derived.RangeFuncNested
import Derived.RangeFuncBound
import Derived.RangeFuncCalls
import Derived.RangeFuncLeaves
import Derived.Shelf.Abstract
import Derived.Shelf.RegionOpen
import Derived.OwnWalkIn
import Derived.TacticsInMore
import Derived.LoopNIn
import Derived.LoopIn
import Derived.StillTailTactics
import Derived.Test.YtbfbobfbgabjiaaGreatDoorM01
set_option linter.all false
set_option maxRecDepth 100000
set_option maxHeartbeats 8000000
namespace Go.Proofs.YtbfbobfbgabjiaaGreatDoor
open Go.Proofs.Tryz
namespace D
open Go.RowKit
structure Below(B:Nat)(w w':World):Prop where
 os:w'.os=w.os
 tape:w'.tape=w.tape
 output:w'.output=w.output
 size:w.heap.size<=w'.heap.size
 block:∀ k,k<B->w'.heap[k]?=w.heap[k]?
 drawn:w.drawn<=w'.drawn
theorem Below.low{B:Nat}{w w':World}(h:Below B w w'):Go.RowKit.Below B w w':=⟨h.os,h.tape,h.output,h.size,h.block⟩
theorem vQ(B:Nat)(w:World):Below B w w:=⟨rfl,rfl,rfl,bQ _,λ_ _=>rfl,bQ _⟩
theorem Below.trans{B:Nat}{a b c:World}(h:Below B a b)(k:Below B b c):Below B a c:=
 ⟨k.os.trans h.os,k.tape.trans h.tape,k.output.trans h.output,yQ h.size k.size,λi hi=>(k.block i hi).trans (h.block i hi),yQ h.drawn k.drawn⟩
theorem Below.mono{B B':Nat}{w w':World}(h:Below B w w')(hB:B'<=B):Below B' w w':=⟨h.os,h.tape,h.output,h.size,λk hk=>h.block k (lQ hk hB),h.drawn⟩
theorem Below.drew{B:Nat}{a w:World}(h:Below B a w):Below B a w.drew:=⟨h.os,h.tape,h.output,h.size,h.block,Nat.le_succ_of_le h.drawn⟩
theorem Below.heap_alloc(w:World)(o:Obj)(k:Nat)(h:k<w.heap.size):(w.alloc o).heap[k]?=w.heap[k]?:=Go.RowKit.Below.heap_alloc w o k h
theorem wQ(w:World)(a:Addr)(u:Value)(k:Nat)(h:k≠a.block):(w.setCell a u).heap[k]?=w.heap[k]?:=Go.RowKit.Below.heap_setCell w a u k h
theorem Below.alloc{B:Nat}{a w:World}(h:Below B a w)(hB:B<=w.heap.size)(o:Obj):Below B a (w.alloc o):=
 h.trans ⟨rfl,rfl,rfl,by simp,λk hk=>Below.heap_alloc _ _ _ (by omega),bQ _⟩
theorem Below.setCell{B:Nat}{a w:World}(h:Below B a w){p:Addr}(hp:B<=p.block)(u:Value):Below B a (w.setCell p u):=
 h.trans ⟨rfl,rfl,rfl,by simp[World.setCell],λk hk=>wQ _ _ _ _ (by omega),bQ _⟩
theorem Below.cell{B:Nat}{w w':World}(h:Below B w w'){p:Addr}(hp:p.block<B):w'.cell? p=w.cell? p:=h.low.cell hp
theorem Below.frozen{B:Nat}{w w':World}(h:Below B w w'){p:Addr}(hp:p.block<B):w'.frozen? p=w.frozen? p:=h.low.frozen hp
structure ItStep(B:Nat)(S:Nat->Prop)(W W':World):Prop where
 os:W'.os=W.os
 tape:W'.tape=W.tape
 output:W'.output=W.output
 size:W.heap.size<=W'.heap.size
 keep:∀ k,k<W.heap.size->(k<B\/S k)->W'.heap[k]?=W.heap[k]?
 drawn:W.drawn<=W'.drawn
structure RdStep(S:Nat->Prop)(W W':World):Prop where
 os:W'.os=W.os
 tape:W'.tape=W.tape
 output:W'.output=W.output
 size:W.heap.size<=W'.heap.size
 keep:∀ k,k<W.heap.size->¬ S k->W'.heap[k]?=W.heap[k]?
 drawn:W.drawn<=W'.drawn
theorem ItStep.refl(B:Nat)(S:Nat->Prop)(W:World):ItStep B S W W:=⟨rfl,rfl,rfl,bQ _,λ_ _ _=>rfl,bQ _⟩
theorem RdStep.refl(S:Nat->Prop)(W:World):RdStep S W W:=⟨rfl,rfl,rfl,bQ _,λ_ _ _=>rfl,bQ _⟩
theorem ItStep.trans{B:Nat}{S:Nat->Prop}{A W C:World}(h:ItStep B S A W)(k:ItStep B S W C):ItStep B S A C:=
 ⟨k.os.trans h.os,k.tape.trans h.tape,k.output.trans h.output,yQ h.size k.size,λi hi hs=>(k.keep i (lQ hi h.size) hs).trans (h.keep i hi hs),yQ h.drawn k.drawn⟩
theorem RdStep.trans{S S':Nat->Prop}{A W C:World}(h:RdStep S A W)(k:RdStep S' W C)(hS:∀ i,S' i->S i\/A.heap.size<=i):RdStep S A C:=
 ⟨k.os.trans h.os,k.tape.trans h.tape,k.output.trans h.output,yQ h.size k.size,λi hi hs=>
  (k.keep i (lQ hi h.size) (λe=>by rcases hS i e with e | e; exact hs e; omega)).trans (h.keep i hi hs),yQ h.drawn k.drawn⟩
theorem RdStep.mono{S S':Nat->Prop}{A W:World}(h:RdStep S A W)(hS:∀ i,S i->S' i):RdStep S' A W:=
 ⟨h.os,h.tape,h.output,h.size,λi hi hs=>h.keep i hi (λe=>hs (hS i e)),h.drawn⟩
theorem ItStep.of_below{B:Nat}{S:Nat->Prop}{A W:World}(h:Below A.heap.size A W):ItStep B S A W:=
 ⟨h.os,h.tape,h.output,h.size,λk hk _=>h.block k hk,h.drawn⟩
theorem RdStep.of_below{S:Nat->Prop}{A W:World}(h:Below A.heap.size A W):RdStep S A W:=
 ⟨h.os,h.tape,h.output,h.size,λk hk _=>h.block k hk,h.drawn⟩
theorem RdStep.below{S:Nat->Prop}{A W:World}{n:Nat}(h:RdStep S A W)(hn:n<=A.heap.size)(hS:∀ k,S k->n<=k):Below n A W:=
 ⟨h.os,h.tape,h.output,h.size,λk hk=>h.keep k (by omega) (λe=>by have:=hS k e; omega),h.drawn⟩
theorem RdStep.setCell{S:Nat->Prop}{A W:World}(h:RdStep S A W){p:Addr}(hp:S p.block\/A.heap.size<=p.block)(u:Value):RdStep S A (W.setCell p u):=
 ⟨h.os,h.tape,h.output,by simpa [World.setCell] using h.size,λk hk hs=>(wQ _ _ _ _ (by rintro rfl; rcases hp with hp | hp; exact hs hp; omega)).trans (h.keep k hk hs),h.drawn⟩
theorem RdStep.alloc{S:Nat->Prop}{A W:World}(h:RdStep S A W)(o:Obj):RdStep S A (W.alloc o):=
 ⟨h.os,h.tape,h.output,yQ h.size (by simp),λk hk hs=>(Below.heap_alloc _ _ _ (lQ hk h.size)).trans (h.keep k hk hs),h.drawn⟩
theorem RdStep.drew{S:Nat->Prop}{A W:World}(h:RdStep S A W):RdStep S A W.drew:=⟨h.os,h.tape,h.output,h.size,h.keep,Nat.le_succ_of_le h.drawn⟩
theorem RdStep.then_below{S:Nat->Prop}{A W C:World}(h:RdStep S A W)(k:Below W.heap.size W C):RdStep S A C:=
 ⟨k.os.trans h.os,k.tape.trans h.tape,k.output.trans h.output,yQ h.size k.size,λi hi hs=>(k.block i (lQ hi h.size)).trans (h.keep i hi hs),yQ h.drawn k.drawn⟩
def gh{β:Type}(B:Nat)(J:β->(Nat->Prop)->World->Prop):Prop:=∀ s S W W',J s S W->ItStep B S W W'->J s S W'
def D5{α:Type}(J Jx:List α->(Nat->Prop)->World->Prop)(pre:List α)(x:α)(S:Nat->Prop)(W:World)(e:Ending)(W':World):Prop:=
 ∃ S':Nat->Prop,RdStep S W W'/\(∀ k,S' k->S k\/W.heap.size<=k)/\(∀ k,S' k->k<W'.heap.size)/\
   ((e = .returned (.bool true)/\J (pre ++ [x]) S' W')\/(e = .returned (.bool false)/\Jx (pre ++ [x]) S' W'))
def vK{α:Type}(P:Program)(gf:FuncId)(mk:Value->Array Value)(encs:α->Array Value)(xs:List α)(n₀:Nat)(w:World):Prop:=
 ∀ (l:Nat) (J Jx:List α->(Nat->Prop)->World->Prop) (S:Nat->Prop) (W:World),Below n₀ w W->
   gh W.heap.size J->gh W.heap.size Jx->
   (∀ pre x S1 W1,pre ++ [x] <+: xs->J pre S1 W1->(∀ k,S1 k->k<W1.heap.size)->W.heap.size<=W1.heap.size->
     YieldAt Fence.wide 0 P l (encs x) W1 (D5 J Jx pre x S1 W1))->
   (∀ k,S k->n₀<=k)->(∀ k,S k->k<W.heap.size)->J [] S W->
   CallsIn Fence.wide 0 P gf (mk (.func (.yield l) #[] #[])) W λe W'=>(∃ v,e = .returned v)/\
    ((∃ S',J xs S' W'/\(∀ k,S' k->S k\/W.heap.size<=k))\/(∃ pre S',pre <+: xs/\Jx pre S' W'/\(∀ k,S' k->S k\/W.heap.size<=k)))
def nF{α:Type}(I:List α->(Nat->Prop)->World->Prop)(Ix:Code->List α->(Nat->Prop)->World->Prop)(xs:List α)(S:Nat->Prop)(W:World):Exit->Act->World->Prop
 | .normal,_,W'=>∃ S',RdStep S W W'/\(∀ k,S' k->S k\/W.heap.size<=k)/\(∀ k,S' k->k<W'.heap.size)/\I xs S' W'
 | .ret,_,W'=>∃ S',RdStep S W W'/\(∀ k,S' k->S k\/W.heap.size<=k)/\(∀ k,S' k->k<W'.heap.size)/\Ix .ret xs S' W'
 | .exit id,_,W'=>∃ S',RdStep S W W'/\(∀ k,S' k->S k\/W.heap.size<=k)/\(∀ k,S' k->k<W'.heap.size)/\Ix (.exit id) xs S' W'
 | _,_,_=>False
theorem jH{B:Nat}{S:Nat->Prop}{W:World}{l:Nat}(o:Obj)(hl:B<=l)(hS:¬ S l):ItStep B S W (W.putObj l o):=
 ⟨rfl,rfl,rfl,by simp,λk _ hk=>zQ (by rintro rfl; rcases hk with hk | hk; omega; exact hS hk),bQ _⟩
theorem tD{B:Nat}{S:Nat->Prop}{W:World}(o:Obj):ItStep B S W (W.alloc o):=
 ⟨rfl,rfl,rfl,by simp,λk hk _=>Below.heap_alloc _ _ _ hk,bQ _⟩
theorem ItStep.weaken{B B':Nat}{S S':Nat->Prop}{W W':World}(h:ItStep B S W W')(hB:B'<=B)(hS:∀ k,S' k->S k):ItStep B' S' W W':=
 ⟨h.os,h.tape,h.output,h.size,λk hk hs=>h.keep k hk (hs.imp (λe=>by omega) (hS k)),h.drawn⟩
theorem Gz{α:Type}{P:Program}{g:Operand}{ps:Array Tmp}{assign body:Code}{Q:Exit->Act->World->Prop}{a:Act}{w:World}
 {gf:FuncId} {first captured:Array Value} (hg:a.eval g = .func (.func gf) first captured) (eg:∀ args w,(callFunc gf args).run P w = .ok (.enter gf args) w)
 {mk:Value->Array Value} {encs:α->Array Value} {xs:List α} {n₀:Nat} {w0:World} (gL:∀ y,mk y=first ++ #[y]++captured)
 (hit:vK P gf mk encs xs n₀ w0) (da:Below n₀ w0 w) (mo:n₀<=w.heap.size) (ew:∀ x,(encs x).size=ps.size)
 (I:List α->(Nat->Prop)->World->Prop) (Ix:Code->List α->(Nat->Prop)->World->Prop) (A:List α->α->(Nat->Prop)->Act->World->Prop)
 (hI:gh w.heap.size I) (jB:∀ c,gh w.heap.size (Ix c)) (hA:∀ pre x S a' W W',A pre x S a' W->ItStep w.heap.size S W W'->A pre x S a' W')
 (S0:Nat->Prop) (qi:∀ k,S0 k->n₀<=k) (ls:∀ k,S0 k->k<w.heap.size) (h0:I [] S0 w)
 (CR:∀ (l:Nat) (pre:List α) (x:α) (S:Nat->Prop) (W:World),pre ++ [x] <+: xs->I pre S W->(∀ k,S k->k<W.heap.size)->
   assign.wpIn (Fence.wide.inRound l) 0 P (Exit.then (λa₁ W₁=>∃ S',RdStep S W W₁/\(∀ k,S' k->S k\/W.heap.size<=k)/\(∀ k,S' k->k<W₁.heap.size)/\A pre x S' a₁ W₁) (λ_ _ _=>False))
    { tmps:=(ps.zip (encs x)).foldl (λt (p,v)=>t.setIfInBounds p v) a.tmps,defers:=[] } W)
 (BA:∀ (l:Nat) (pre:List α) (x:α) (S:Nat->Prop) (a₁:Act) (W:World),pre ++ [x] <+: xs->A pre x S a₁ W->(∀ k,S k->k<W.heap.size)->
   body.wpIn (Fence.wide.inRound l) 0 P (nF I Ix (pre ++ [x]) S W) a₁ W)
 (nT:∀ (D:Nat) (S:Nat->Prop) (W:World),w.heap.size<=D->¬ S D->(∀ k,S k->S0 k\/w.heap.size<=k)->I xs S W->W.heap[D]?=some (.deferred (some []))->
   Q .normal { a with defers:={ target:=.collected D,args:=#[] } :: a.defers } W)
 (gj:∀ (D:Nat) (c:Code) (pre:List α) (S:Nat->Prop) (W:World),w.heap.size<=D->¬ S D->(∀ k,S k->S0 k\/w.heap.size<=k)->pre <+: xs->Ix c pre S W->W.heap[D]?=some (.deferred (some []))->
   c.wpIn Fence.wide 0 P Q { a with defers:={ target:=.collected D,args:=#[] } :: a.defers } W) :
 (Code.rangeFunc g ps assign body).wpIn Fence.wide 0 P Q a w:=by
 refine wpIn_rangeFunc ?_;intro fn gK;show ∃ (l:Nat) (mark:List Deferred) (w₁:World) (d:Deferred) (w₁':World) (f:FuncId) (args:Array Value) (w₂:World),(Instr.enterLoop fn a.tmps ps assign body none).run P w = .ok (l,mark) w₁/\_;obtain⟨rec,fK⟩:∃ rec:LoopState->Option Code->Loop,rec=λst pe=>{ state:=st,pending:=pe,fn,tmps:=a.tmps,params:=ps,assign,body,defers:=w.heap.size }:=⟨_,rfl⟩;obtain⟨W1,ae⟩:∃ W1,(w.alloc (.deferred (some []))).alloc (.loop (rec .ready none))=W1:=⟨_,rfl⟩;have an:W1.heap.size=w.heap.size+2:=by rw[<-ae]; simp
 have iH:W1.heap[w.heap.size+1]?=some (.loop (rec .ready none)):=by
  rw[<-ae]; have:=World.alloc_heap_new (w.alloc (.deferred (some []))) (.loop (rec .ready none)); rwa [World.size_alloc] at this
 have CL:W1.heap[w.heap.size]?=some (.deferred (some [])):=by
  rw[<-ae]; exact (Below.heap_alloc _ _ _ (by simp)).trans (World.alloc_heap_new w _)
 have mp:I [] S0 W1:=by rw[<-ae]; exact hI _ _ _ _ (hI _ _ _ _ h0 (tD _)) (tD _)
 have aq:Below n₀ w0 W1:=by
  rw[<-ae]; exact da.trans ((((vQ _ w).alloc (bQ _) _).alloc (by simp) _).mono mo)
 refine⟨w.heap.size+1,[{ target:=.collected w.heap.size,args:=#[] }],W1,{ target:=.fn (.func gf) captured,args:=first ++ #[.func (.yield (w.heap.size+1)) #[] #[]] },W1,gf,
  first ++ #[.func (.yield (w.heap.size+1)) #[] #[]]++captured,W1,?_,?_,?_,?_,λh=>by simp[Fence.wide] at h,?_⟩
 ·rw[<-ae,fK]; exact run_enterLoop_outer _ _ _ _ _
 ·simp only[resolve,hg];simp[go_sem]
 ·intro f' _; trivial
 ·simp[invoke,go_sem,eg]
 ·rw[<-gL];have key:=hit (w.heap.size+1)
   (λpre Si W=>∃ S:Nat->Prop,(∀ k,Si k↔S k\/k=w.heap.size+1)/\(¬ S w.heap.size)/\(¬ S (w.heap.size+1))/\(∀ k,S k->S0 k\/w.heap.size<=k)/\I pre S W/\W.heap[w.heap.size+1]?=some (.loop (rec .ready none))/\W.heap[w.heap.size]?=some (.deferred (some [])))
   (λpre Si W=>∃ (S:Nat->Prop) (c:Code),(∀ k,Si k↔S k\/k=w.heap.size+1)/\(¬ S w.heap.size)/\(¬ S (w.heap.size+1))/\(∀ k,S k->S0 k\/w.heap.size<=k)/\Ix c pre S W/\W.heap[w.heap.size+1]?=some (.loop (rec .done (some c)))/\W.heap[w.heap.size]?=some (.deferred (some [])))
   (λk=>S0 k\/k=w.heap.size+1) W1 aq ?_ ?_ ?_ ?_ ?_ ?_
  ·refine key.mono ?_;rintro e W2 ⟨⟨v,rfl⟩,(⟨S',⟨S,dw,hD,hL,bM,hi,hl,hk⟩,_⟩ | ⟨pre,S',jf,⟨S,c,dw,hD,hL,bM,hi,hl,hk⟩,_⟩)⟩
   ·refine⟨none,_,by have:=run_endLoop (P:=P) hl (by rw[fK]; simp); rw[fK] at this; exact this,?_⟩;exact nT _ S _ (bQ _) hD bM (hI _ _ _ _ hi (jH _ (by omega) hL)) ((zQ (by omega)).trans hk)
   ·refine⟨some c,_,by have:=run_endLoop (P:=P) hl (by rw[fK]; simp); rw[fK] at this; exact this,?_⟩;exact gj _ c pre S _ (bQ _) hD bM jf ((jB c) _ _ _ _ hi (jH _ (by omega) hL)) ((zQ (by omega)).trans hk)
  ·rintro pre Si A1 B1 ⟨S,dw,hD,hL,bM,hi,hl,hk⟩ aB;have ab:w.heap.size+1<A1.heap.size:=(eQ.1 hl).1;exact⟨S,dw,hD,hL,bM,hI _ _ _ _ hi (aB.weaken (by omega) (λk e=>(dw k).2 (.inl e))),(aB.keep _ ab (.inl (by omega))).trans hl,(aB.keep _ (by omega) (.inl (by omega))).trans hk⟩
  ·rintro pre Si A1 B1 ⟨S,c,dw,hD,hL,bM,hi,hl,hk⟩ aB;have ab:w.heap.size+1<A1.heap.size:=(eQ.1 hl).1;exact⟨S,c,dw,hD,hL,bM,jB c _ _ _ _ hi (aB.weaken (by omega) (λk e=>(dw k).2 (.inl e))),(aB.keep _ ab (.inl (by omega))).trans hl,(aB.keep _ (by omega) (.inl (by omega))).trans hk⟩
  ·
   rintro pre x Si W cC ⟨S,dw,hD,hL,bM,hi,hl,hk⟩ gk LI;have ab:w.heap.size+1<W.heap.size:=(eQ.1 hl).1;have AT:∀ k,S k->k<W.heap.size:=λk e=>gk k ((dw k).2 (.inl e));have hy:=run_yield (P:=P) (args:=encs x) hl (by rw[fK]; exact ew x);rw[fK] at hy;refine⟨fn,_,assign,body,hy,roundIn_of_wpIn gK (wpIn_mono (CR _ pre x S W cC hi AT) ?_)⟩;intro e a1 Wa hq
   cases e with
   | normal=>
    obtain⟨S1,gw,aZ,Bk,Cg⟩:=hq;have tS:¬ S1 w.heap.size:=λe=>by rcases aZ _ e with e | e; exact hD e; omega
    have p9:¬ S1 (w.heap.size+1):=λe=>by rcases aZ _ e with e | e; exact hL e; omega
    have pY:Wa.heap[w.heap.size+1]?=some (.loop (rec .ready none)):=(gw.keep _ ab hL).trans hl;have Cn:Wa.heap[w.heap.size]?=some (.deferred (some [])):=(gw.keep _ (by omega) hD).trans hk;have uI:w.heap.size+1<Wa.heap.size:=(eQ.1 pY).1;refine⟨_,run_beginRound pY (by rw[fK]),?_⟩;have hb:=BA (w.heap.size+1) pre x S1 a1 (Wa.putObj (w.heap.size+1) (.loop { rec .ready none with state:=.busy })) cC (hA _ _ _ _ _ _ Cg (jH _ (by omega) p9)) (λk e=>by simpa using Bk k e);refine wpIn_mono hb ?_;have fin:∀ (jump:Option Code) (W3:World) (S3:Nat->Prop),RdStep S1 (Wa.putObj (w.heap.size+1) (.loop { rec .ready none with state:=.busy })) W3->(∀ k,S3 k->S1 k\/(Wa.putObj (w.heap.size+1) (.loop { rec .ready none with state:=.busy })).heap.size<=k)->(∀ k,S3 k->k<W3.heap.size)->
     (Instr.endRound (w.heap.size+1) jump).run P W3 = .ok (.bool jump.isNone) (W3.putObj (w.heap.size+1) (.loop (rec (if jump.isNone then .ready else .done) jump)))/\
     (W3.putObj (w.heap.size+1) (.loop (rec (if jump.isNone then .ready else .done) jump))).heap[w.heap.size+1]?=some (.loop (rec (if jump.isNone then .ready else .done) jump))/\
     (W3.putObj (w.heap.size+1) (.loop (rec (if jump.isNone then .ready else .done) jump))).heap[w.heap.size]?=some (.deferred (some []))/\
     ¬ S3 w.heap.size/\¬ S3 (w.heap.size+1)/\(∀ k,S3 k->S k\/W.heap.size<=k)/\
     RdStep Si W (W3.putObj (w.heap.size+1) (.loop (rec (if jump.isNone then .ready else .done) jump))):=λjump W3 S3 dj dO dl=>by
     have dz:(Wa.putObj (w.heap.size+1) (.loop { rec .ready none with state:=.busy })).heap[w.heap.size+1]?=some (.loop { rec .ready none with state:=.busy }):=World.putObj_heap_same uI;have kW:(Wa.putObj (w.heap.size+1) (.loop { rec .ready none with state:=.busy })).heap[w.heap.size]?=some (.deferred (some [])):=(zQ (by omega)).trans Cn;have oi:=(dj.keep _ (by simpa using uI) p9).trans dz;have no:=(dj.keep _ (by simp; omega) tS).trans kW;have nX:=(eQ.1 oi).1
     have:=run_endRound (P:=P) jump oi
     rw[fK] at this |-;have lI:=dj.size;have sh:=gw.size;simp only[World.putObj_size] at lI dO;refine⟨this,World.putObj_heap_same nX,(zQ (by omega)).trans no,λe=>?_,λe=>?_,λk e=>?_,?_⟩
     ·rcases dO _ e with e | e; exact tS e; omega
     ·rcases dO _ e with e | e; exact p9 e; omega
     ·rcases dO _ e with e | e
      ·exact aZ _ e
      ·right; omega
     ·refine⟨dj.os.trans gw.os,dj.tape.trans gw.tape,dj.output.trans gw.output,by simp; omega,λk hk' uq=>?_,yQ gw.drawn dj.drawn⟩;have mV:k≠w.heap.size+1:=λe=>uq ((dw k).2 (.inr e));have uj:¬ S k:=λe=>uq ((dw k).2 (.inl e));have Bu:¬ S1 k:=λe=>by rcases aZ _ e with e | e; exact uj e; omega
      exact (zQ mV).trans ((dj.keep k (by simp; omega) Bu).trans ((zQ mV).trans (gw.keep k hk' uj)))
    have fin2:∀ (S3:Nat->Prop) (W3:World) (o:Obj),(∀ k,S3 k->k<W3.heap.size)->W.heap.size<=W3.heap.size->(∀ k,S3 k->S k\/W.heap.size<=k)->
     (∀ k,(S3 k\/k=w.heap.size+1)->Si k\/W.heap.size<=k)/\(∀ k,(S3 k\/k=w.heap.size+1)->k<(W3.putObj (w.heap.size+1) o).heap.size):=λS3 W3 o h1 h2 h3=>
     ⟨λk e=>by rcases e with e | e; exact (h3 k e).imp (λe'=>(dw k).2 (.inl e')) id; exact .inl ((dw k).2 (.inr e)),λk e=>by
      simp only[World.putObj_size];rcases e with e | e
      ·exact h1 k e
      ·omega⟩
    have sub3:∀ (S3:Nat->Prop),(∀ k,S3 k->S k\/W.heap.size<=k)->∀ k,S3 k->S0 k\/w.heap.size<=k:=λS3 h k e=>by
     rcases h k e with e | e
     ·exact bM k e
     ·right; omega
    rintro e a3 W3 hp
    cases e with
    | normal=>
     obtain⟨S3,dj,dO,dl,lj⟩:=hp;obtain⟨hr,k9,kB,iB,gv,dZ,bA⟩:=fin none W3 S3 dj dO dl;have an:W.heap.size<=W3.heap.size:=by simpa using bA.size
     refine⟨_,_,hr,λk=>S3 k\/k=w.heap.size+1,bA,(fin2 S3 W3 (.deferred none) dl an dZ).1,(fin2 S3 W3 _ dl an dZ).2,.inl ⟨rfl,S3,λ_=>Iff.rfl,iB,gv,sub3 S3 dZ,hI _ _ _ _ lj (jH _ (by omega) gv),k9,kB⟩⟩
    | ret=>
     obtain⟨S3,dj,dO,dl,lj⟩:=hp;obtain⟨hr,k9,kB,iB,gv,dZ,bA⟩:=fin (some .ret) W3 S3 dj dO dl;have an:W.heap.size<=W3.heap.size:=by simpa using bA.size
     refine⟨_,_,hr,λk=>S3 k\/k=w.heap.size+1,bA,(fin2 S3 W3 (.deferred none) dl an dZ).1,(fin2 S3 W3 _ dl an dZ).2,.inr ⟨rfl,S3,.ret,λ_=>Iff.rfl,iB,gv,sub3 S3 dZ,jB _ _ _ _ _ lj (jH _ (by omega) gv),k9,kB⟩⟩
    | exit id=>
     obtain⟨S3,dj,dO,dl,lj⟩:=hp;obtain⟨hr,k9,kB,iB,gv,dZ,bA⟩:=fin (some (.exit id)) W3 S3 dj dO dl;have an:W.heap.size<=W3.heap.size:=by simpa using bA.size
     refine⟨_,_,hr,λk=>S3 k\/k=w.heap.size+1,bA,(fin2 S3 W3 (.deferred none) dl an dZ).1,(fin2 S3 W3 _ dl an dZ).2,.inr ⟨rfl,S3,.exit id,λ_=>Iff.rfl,iB,gv,sub3 S3 dZ,jB _ _ _ _ _ lj (jH _ (by omega) gv),k9,kB⟩⟩
    | goto t=>exact hp.elim
    | panic ch=>exact hp.elim
    | outgrown=>exact hp.elim
   | ret=>exact hq.elim
   | exit id=>exact hq.elim
   | goto t=>exact hq.elim
   | panic ch=>exact hq.elim
   | outgrown=>exact hq.elim
  ·rintro k (e | rfl)
   ·exact qi k e
   ·omega
  ·rintro k (e | rfl)
   ·have:=ls k e; omega
   ·omega
  ·exact⟨S0,λ_=>Iff.rfl,λe=>by have:=ls _ e; omega,λe=>by have:=ls _ e; omega,λ_ e=>.inl e,mp,iH,CL⟩
theorem kN{B:Nat}{S:Nat->Prop}{W W':World}{b:Nat}{t:TypeId}{v:Value}(h:Boxed W b t v)(hs:ItStep B S W W')(hb:S b):Boxed W' b t v:=(hs.keep b h.lt (.inr hb)).trans h
theorem vw{n B:Nat}{S:Nat->Prop}{w W W':World}(h:Below n w W)(hs:ItStep B S W W')(hB:n<=B)(hn:n<=w.heap.size):Below n w W':=
 ⟨hs.os.trans h.os,hs.tape.trans h.tape,hs.output.trans h.output,yQ h.size hs.size,λk hk=>(hs.keep k (by have:=h.size; omega) (.inl (by omega))).trans (h.block k hk),yQ h.drawn hs.drawn⟩
theorem fC{n:Nat}{W W':World}{b:Nat}{t:TypeId}{v:Value}(h:Boxed W b t v)(hs:Below n W W')(hb:b<n):Boxed W' b t v:=(hs.block b hb).trans h
theorem fG{W:World}{b:Nat}{t:TypeId}{v:Value}(h:Boxed W b t v){p:Addr}(hp:b≠p.block)(u:Value):Boxed (W.setCell p u) b t v:=(wQ W p u b hp).trans h
theorem nJ{P:Program}{fn:Func}{R:Ending->World->Prop}{tmps:Array Value}{w:World}{v:Value}(sA:(results fn tmps).run P w = .ok v w)(hR:R (.returned v) w) :
 bodyPostM Fence.wide 0 P fn R .ret { tmps:=tmps,defers:=[] } w:=⟨_,sA,hR⟩
theorem pI{P:Program}{fn:Func}{R:Ending->World->Prop}{tmps:Array Value}{W:World}{D:Nat}{v:Value}(hK:W.heap[D]?=some (.deferred (some [])))
 (sA:(results fn tmps).run P (W.putObj D (.deferred none)) = .ok v (W.putObj D (.deferred none))) (hR:R (.returned v) (W.putObj D (.deferred none))) :
 bodyPostM Fence.wide 0 P fn R .ret { tmps:=tmps,defers:=[{ target:=.collected D,args:=#[] }] } W:=
 ⟨by simp,.inl ⟨_,_,rfl,run_takeDeferred hK,_,sA,hR⟩⟩
theorem py{n D:Nat}{w W:World}(h:Below n w W)(hD:n<=D)(o:Obj):Below n w (W.putObj D o):=
 ⟨h.os,h.tape,h.output,by simpa using h.size,λk hk=>(zQ (by omega)).trans (h.block k hk),h.drawn⟩
theorem u7{W:World}{b D:Nat}{t:TypeId}{v:Value}(h:Boxed W b t v)(hD:b≠D)(o:Obj):Boxed (W.putObj D o) b t v:=(zQ hD).trans h
theorem Dh{α:Type}{P:Program}{g:Operand}{ps:Array Tmp}{assign body:Code}{Q:Exit->Act->World->Prop}{a:Act}{w:World}
 {gf:FuncId} {first captured:Array Value} (hg:a.eval g = .func (.func gf) first captured) (eg:∀ args w,(callFunc gf args).run P w = .ok (.enter gf args) w)
 {mk:Value->Array Value} {encs:α->Array Value} {xs:List α} {n₀:Nat} {w0:World} (gL:∀ y,mk y=first ++ #[y]++captured)
 (hit:vK P gf mk encs xs n₀ w0) (da:Below n₀ w0 w) (mo:n₀<=w.heap.size) (ew:∀ x,(encs x).size=ps.size)
 (I:List α->(Nat->Prop)->World->Prop) (Ix:Code->List α->(Nat->Prop)->World->Prop)
 (hI:gh w.heap.size I) (jB:∀ c,gh w.heap.size (Ix c))
 (S0:Nat->Prop) (qi:∀ k,S0 k->n₀<=k) (ls:∀ k,S0 k->k<w.heap.size) (h0:I [] S0 w)
 (Cu:∀ (l0:Nat) (pre:List α) (x:α) (S:Nat->Prop) (W:World),pre ++ [x] <+: xs->I pre S W->(∀ k,S k->k<W.heap.size)->
   assign.wpIn (Fence.wide.inRound l0) 0 P (Exit.then (λa₁ W₁=>∃ S',RdStep S W W₁/\(∀ k,S' k->S k\/W.heap.size<=k)/\(∀ k,S' k->k<W₁.heap.size)/\
    ∀ l W₂,ItStep w.heap.size S' W₁ W₂->body.wpIn (Fence.wide.inRound l) 0 P (nF I Ix (pre ++ [x]) S' W₂) a₁ W₂) (λ_ _ _=>False))
    { tmps:=(ps.zip (encs x)).foldl (λt (p,v)=>t.setIfInBounds p v) a.tmps,defers:=[] } W)
 (nT:∀ (D:Nat) (S:Nat->Prop) (W:World),w.heap.size<=D->¬ S D->(∀ k,S k->S0 k\/w.heap.size<=k)->I xs S W->W.heap[D]?=some (.deferred (some []))->
   Q .normal { a with defers:={ target:=.collected D,args:=#[] } :: a.defers } W)
 (gj:∀ (D:Nat) (c:Code) (pre:List α) (S:Nat->Prop) (W:World),w.heap.size<=D->¬ S D->(∀ k,S k->S0 k\/w.heap.size<=k)->pre <+: xs->Ix c pre S W->W.heap[D]?=some (.deferred (some []))->
   c.wpIn Fence.wide 0 P Q { a with defers:={ target:=.collected D,args:=#[] } :: a.defers } W) :
 (Code.rangeFunc g ps assign body).wpIn Fence.wide 0 P Q a w:=
 Gz hg eg gL hit da mo ew I Ix (λpre x S a₁ W=>∀ l W₂,ItStep w.heap.size S W W₂->body.wpIn (Fence.wide.inRound l) 0 P (nF I Ix (pre ++ [x]) S W₂) a₁ W₂)
  hI jB (λ_ _ _ _ _ _ h hs l W₂ h2=>h l W₂ (hs.trans h2)) S0 qi ls h0 Cu (λl _ _ _ _ W _ h _=>h l W (ItStep.refl _ _ _)) nT gj
def bE(w:World):Type:={ x:World // Below w.heap.size w x }
def bE.w{w:World}(g:bE w):World:=g.1
theorem bE.below{w:World}(g:bE w):Below w.heap.size w g.w:=g.2
instance (w:World):Nonempty (bE w):=⟨⟨w,vQ _ _⟩⟩
theorem bE.cell{w:World}(g:bE w)(p:Addr)(h:p.block<w.heap.size):g.w.cell? p=w.cell? p:=g.2.cell h
theorem bE.frozen{w:World}(g:bE w)(p:Addr)(h:p.block<w.heap.size):g.w.frozen? p=w.frozen? p:=g.2.frozen h
theorem bE.size{w:World}(g:bE w):w.heap.size<=g.w.heap.size:=g.2.size
def AQ(w:World)(w':World):Prop:=∃ g:bE w,w'=g.w
theorem AQ.of{w w':World}(h:Below w.heap.size w w'):AQ w w':=⟨⟨w',h⟩,rfl⟩
theorem Calls.grow_of{P:Program}{f:FuncId}{args:Array Value}{w:World}{g:bE w}{v:Value}
 (h:Calls P f args g.w λe w'=>e = .returned v/\Below g.w.heap.size g.w w'):Calls P f args g.w λe w''=>e = .returned v/\∃ g':bE w,w''=g'.w:=
 h.mono λ_ w' ⟨he,hm⟩=>⟨he,⟨w',g.2.trans (hm.mono g.2.size)⟩,rfl⟩
section
variable {P:Program}
theorem en{id:Nat}{Q:Exit->Act->World->Prop}{a:Act}{w:World}{l:List Oper}(hm:P.follows .mixedOrders=true)(hB:Region.lexB .any l.toArray=true)
 (h:wpQuiet P l.toArray (λw'=>∃ g:bE w,w'=g.w) (λa'=>∀ w',(∃ g:bE w,w'=g.w)->Q .normal a' w') l a):(Code.region id l.toArray true).wp P Q a w:=
 wp_region_quiet (C:=λw'=>∃ g:bE w,w'=g.w) hm hB ⟨⟨_,(vQ w.heap.size w).drew⟩,rfl⟩ (by simpa using h)
end
theorem tN{W w1:World}(hb:Below W.heap.size W w1):(∀ b o,b<W.heap.size->w1.cell? ⟨b,o,none⟩=W.cell? ⟨b,o,none⟩)/\(∀ b o,b<W.heap.size->w1.frozen? ⟨b,o,none⟩=W.frozen? ⟨b,o,none⟩):=
 ⟨λb o h=>hb.cell (p:=⟨b,o,none⟩) h,λb o h=>hb.frozen (p:=⟨b,o,none⟩) h⟩
end D
namespace D
open Go.RowKit Go.Shelf
attribute [local go_sem] Oper.semAt_some
abbrev aH(l:List UInt8):Value:=.string ⟨l.toArray⟩
def Ie:Value->Nat
 | .string s=>s.size
 | _=>0
def Id(t:ByteArray)(J:List (List UInt8)->(Nat->Prop)->World->Prop)(S:Nat->Prop)(W:World)(v:Value)(wr:World):Prop:=
 ∃ (pre:List (List UInt8)) (r:ByteArray) (S1:Nat->Prop),v = .string r/\r.size<=140737488355328/\Np.bj t.data.toList=pre++(Np.be r.data.toList).reverse/\
   J pre S1 wr/\(∀ k,S1 k->k<wr.heap.size)/\W.heap.size<=wr.heap.size/\(∀ k,S1 k->S k\/W.heap.size<=k)
theorem Da(t:ByteArray)(ht:t.size<=140737488355328)(n₀:Nat)(w:World) :
 vK prog 98 (λy=>#[.string t,y]) (λx:List UInt8=>#[aH x]) (Np.bj t.data.toList) n₀ w:=by
 intro l J Jx S W hW hJ Qi hY hS hS' h0;refine callsIn_of_wp func98 rfl trivial ?_ rfl;simp only[ntmps98,List.size_toArray,List.length_cons,List.length_nil,Nat.reduceAdd,Nat.reduceSub,Array.replicate_succ,Array.replicate_zero,List.push_toArray,List.append_toArray,List.nil_append,List.cons_append];gi_wp2_with fail
 ·have he:(t.toList == [46])=true:=by assumption
  have lX:t.data.toList = [46]:=by rw[<-dQ]; simpa using he
  have hb:Np.bj t.data.toList = []:=by simp[Np.bj,lX]
  refine bodyPost_ret (results_none rfl _ _ _) rfl ?_;exact⟨⟨_,rfl⟩,.inl ⟨S,by rw[hb]; exact h0,λk e=>.inl e⟩⟩
 ·have he:(t.toList == [46])=false:=by assumption
  have hne:¬ t.data.toList = [46]:=by rw[<-dQ]; simpa using he
  have hb:Np.bj t.data.toList=(Np.be t.data.toList).reverse:=by simp[Np.bj,hne]
  have HB:=jq hb;clear hb;gi_loopw [4] (λv wr=>Id t J S W v wr) (λv _=>Ie v)
  case atStart=>exact⟨[],t,S,rfl,ht,by simpa using HB.out,h0,hS',bQ _,λ_ e=>.inl e⟩
  case round=>
   obtain⟨pre,r,S1,rfl,hr,jf,hj,ab,an,bM⟩:=hrel;have HP:=jq jf;clear jf;gi_wp2_with fail;refine⟨trivial,rfl,?_⟩;refine (callsIn_wide.2 (Gb _ hr _ (by decide) (by decide) _)).mono ?_;rintro e w' ⟨q,hq,rfl,rfl⟩;rcases hq with ⟨rfl,iG⟩ | ⟨a,b,iw,uP,rfl⟩
   ·have aZ:Np.be r.data.toList = [r.data.toList]:=Np.xV iG;have hx:pre ++ [r.data.toList] <+: Np.bj t.data.toList:=by rw[HP.out,aZ]; exact List.prefix_refl _
    obtain⟨fn,tmps,assign,body,hy,hR⟩:=hY pre r.data.toList S1 wr hx hj ab an;have pS:Sem.run prog (Instr.yield l #[.string r]) wr = .ok (.round l fn tmps assign body) wr:=hy;clear hy;have HX:=jq hx;clear hx;have HS:=jq aZ;clear aZ iG;gi_wp2_with fail;refine⟨rfl,hR.mono ?_⟩;rintro e W3 ⟨S3,bA,qm,nX,(⟨rfl,wP⟩ | ⟨rfl,wO⟩)⟩
    all_goals
     gi_wp2_with fail;refine bodyPost_ret (results_none rfl _ _ _) rfl ?_
    ·refine⟨⟨_,rfl⟩,.inl ⟨S3,?_,λk e=>?_⟩⟩
     ·rw[HP.out,HS.out]; exact wP
     ·rcases qm k e with e | e
      ·exact bM k e
      ·right; omega
    ·refine⟨⟨_,rfl⟩,.inr ⟨_,S3,HX.out,wO,λk e=>?_⟩⟩;rcases qm k e with e | e
     ·exact bM k e
     ·right; omega
   ·have lk:a.length+1+b.length=r.size:=by rw[<-bn,iw]; simp; omega
    have aZ:Np.be r.data.toList=Np.be a ++ [b]:=by rw[iw]; exact (Np.zR a b).trans (by rw[Np.xV uP])
    have hx:pre ++ [b] <+: Np.bj t.data.toList:=by rw[HP.out,aZ]; simp
    have mD:(r.extract (a.length+1) r.size).data.toList=b:=by rw[DR,iw]; simp
    have rF:(r.extract 0 a.length).data.toList=a:=by rw[D9,iw]; simp
    have B0:(r.extract 0 a.length).size=a.length:=by rw[<-bn,rF]
    obtain⟨fn,tmps,assign,body,hy,hR⟩:=hY pre b S1 wr hx hj ab an;have pS:Sem.run prog (Instr.yield l #[.string (r.extract (a.length+1) r.size)]) wr = .ok (.round l fn tmps assign body) wr:=by
     have:aH b = .string (r.extract (a.length+1) r.size):=by show Value.string _=_; congr 1; exact iV (by rw[mD])
     simp only[this] at hy;exact hy
    clear hy;have HX:=jq hx;have HS:=jq aZ;have HA:=jq rF;have rq:=jq B0;clear hx aZ mD rF B0 iw uP;have iK:a.length<=140737488355328:=by omega
    have Qk:a.length+1<=r.size:=by omega
    have H2:=jq lk;clear lk;gi_wp2_with fail;refine⟨rfl,hR.mono ?_⟩;rintro e W3 ⟨S3,bA,qm,nX,(⟨rfl,wP⟩ | ⟨rfl,wO⟩)⟩
    ·have hrs:=bA.size;gi_wp2_with fail;go_roundw
     case rel=>
      refine⟨pre ++ [b],r.extract 0 a.length,S3,rfl,by rw[rq.out]; exact iK,?_,wP,nX,by omega,λk e=>?_⟩
      ·rw[HP.out,HS.out,HA.out]; simp
      ·rcases qm k e with e | e
       ·exact bM k e
       ·right; omega
     case measure=>show (r.extract 0 a.length).size<r.size; rw[rq.out]; omega
    ·gi_wp2_with fail;refine bodyPost_ret (results_none rfl _ _ _) rfl ?_;refine⟨⟨_,rfl⟩,.inr ⟨_,S3,HX.out,wO,λk e=>?_⟩⟩;rcases qm k e with e | e
     ·exact bM k e
     ·right; omega
end D
namespace D
open Go.RowKit Go.Shelf
attribute [local go_sem] Oper.semAt_some
def tJ(pre:List (List UInt8)):Bool:=pre.getLast? == some [42]
def Ek(w:World)(xs:List (List UInt8))(pre:List (List UInt8))(S:Nat->Prop)(W:World):Prop:=
 (∀ k,S k↔k=w.heap.size\/k=w.heap.size+1\/k=w.heap.size+1+1)/\Boxed W w.heap.size 4 (.bool false)/\Boxed W (w.heap.size+1) 3 (.int .i64 pre.length)/\Boxed W (w.heap.size+1+1) 4 (.bool (tJ pre))/\
 (pre.length<=8/\∀ rest,xs=pre++rest->Np.fO xs 0 false=Np.fO rest pre.length (tJ pre))/\Below w.heap.size w W
def Ej(w:World)(xs:List (List UInt8))(c:Code)(_:List (List UInt8))(S:Nat->Prop)(W:World):Prop:=
 c = .ret/\(∀ k,S k↔k=w.heap.size\/k=w.heap.size+1\/k=w.heap.size+1+1)/\Boxed W w.heap.size 4 (.bool false)/\Np.fO xs 0 false=false/\Below w.heap.size w W
theorem Mw(w:World)(xs:List (List UInt8))(B:Nat)(hB:w.heap.size<=B):gh B (Ek w xs):=by
 rintro s S W W' ⟨hS,h1,h2,h3,h4,h5⟩ aB;exact⟨hS,kN h1 aB ((hS _).2 (.inl rfl)),kN h2 aB ((hS _).2 (.inr (.inl rfl))),kN h3 aB ((hS _).2 (.inr (.inr rfl))),h4,vw h5 aB hB (bQ _)⟩
theorem Va(w:World)(xs:List (List UInt8))(B:Nat)(hB:w.heap.size<=B)(c:Code):gh B (Ej w xs c):=by
 rintro s S W W' ⟨hc,hS,h1,h4,h5⟩ aB;exact⟨hc,hS,kN h1 aB ((hS _).2 (.inl rfl)),h4,vw h5 aB hB (bQ _)⟩
theorem Hw{w:World}{xs pre:List (List UInt8)}{S:Nat->Prop}{W W3:World}{a:Act}(hS:∀ k,S k↔k=w.heap.size\/k=w.heap.size+1\/k=w.heap.size+1+1)
 (hr:RdStep S W W3) (ab:∀ k,S k->k<W.heap.size) (c0:Boxed W3 w.heap.size 4 (.bool false)) (hB:Below w.heap.size w W3) (hg:Np.fO xs 0 false=false) :
 nF (Ek w xs) (Ej w xs) pre S W .ret a (W3.setCell ⟨w.heap.size,0,none⟩ (.bool false)):=
 ⟨S,hr.setCell (.inl ((hS _).2 (.inl rfl))) _,λ_ e=>.inl e,λk e=>by have:=ab k e; have:=hr.size; simp[World.setCell]; omega,rfl,hS,c0.set _,hg,hB.setCell (bQ _) _⟩
theorem Pf{w:World}{xs pre rest:List (List UInt8)}{x:List UInt8}{S:Nat->Prop}{W W3:World}{a:Act}(hS:∀ k,S k↔k=w.heap.size\/k=w.heap.size+1\/k=w.heap.size+1+1)
 (hr:RdStep S W W3) (ab:∀ k,S k->k<W.heap.size) (c0:Boxed W3 w.heap.size 4 (.bool false)) (c1:Boxed W3 (w.heap.size+1) 3 (.int .i64 (pre.length+1))) (c2:Boxed W3 (w.heap.size+1+1) 4 (.bool (x == [42])))
 (hB:Below w.heap.size w W3) (sJ:pre ++ [x]++rest=xs) (hl:pre.length+1<=8) (hg:Np.fO xs 0 false=Np.fO rest (pre.length+1) (x == [42])) :
 nF (Ek w xs) (Ej w xs) (pre ++ [x]) S W .normal a W3:=by
 have hw:tJ (pre ++ [x])=(x == [42]):=by simp[tJ]
 refine⟨S,hr,λ_ e=>.inl e,λk e=>by have:=ab k e; have:=hr.size; omega,hS,c0,by simpa using c1,by rw[hw]; exact c2,⟨by simpa using hl,λr h=>?_⟩,hB⟩
 have:r=rest:=List.append_cancel_left (h.symm.trans sJ.symm)
 rw[hg,this,hw]; simp
theorem valid_any(t:ByteArray)(ht:t.size<=140737488355328)(w:World) :
 Calls prog 96 #[.string t] w λe w'=>e = .returned (.bool (Np.aG t.data.toList))/\Below w.heap.size w w':=by
 refine (callsIn_wide (n:=0)).1 ?_;refine callsIn_of_wp_marks func96 rfl trivial ?_ rfl;simp only[ntmps96,List.size_toArray,List.length_cons,List.length_nil,Nat.reduceAdd,Nat.reduceSub,Array.replicate_succ,Array.replicate_zero,List.push_toArray,List.append_toArray,List.nil_append,List.cons_append];gi_wp2_with fail
 ·have he:(t.toList == [46])=true:=by assumption
  have lX:t.data.toList = [46]:=by rw[<-dQ]; simpa using he
  exact nJ (v:=.bool true) (by simp[results,results96,go_sem]) ⟨by rw[Np.aG,Qb lX],(vQ _ _).alloc (bQ _) _⟩
 ·have he:(t.toList == [46])=false:=by assumption
  have lX:¬ t.data.toList = [46]:=by rw[<-dQ]; simpa using he
  have hl:60<(t.size:Int):=by assumption
  exact nJ (v:=.bool false) (by simp[results,results96,go_sem]) ⟨by rw[Np.aG,Qc lX,Qb (by rw[bn]; omega)],(vQ _ _).alloc (bQ _) _⟩
 ·have he:(t.toList == [46])=false:=by assumption
  have lX:¬ t.data.toList = [46]:=by rw[<-dQ]; simpa using he
  have hl:(t.size:Int)<=60:=by assumption
  have hv:Np.aG t.data.toList=Np.fO (Np.bj t.data.toList) 0 false:=by
   rw[Np.aG,Qc lX,Qc (by rw[bn]; omega),Np.bj,Qc lX]
  have HV:=jq hv;clear hv;have b0:=Boxed.new w 4 (.bool false);have b1:=Boxed.new (w.alloc (.cells #[.bool false] 4)) 3 (.int .i64 0);have b2:=Boxed.new ((w.alloc (.cells #[.bool false] 4)).alloc (.cells #[.int .i64 0] 3)) 4 (.bool false);simp only[World.size_alloc] at b1 b2;refine Dh (n₀:=w.heap.size) (w0:=w) (first:=#[.string t]) (captured:=#[]) (gf:=98) rfl (enters_of func98 (by kernel_rfl) rfl) (mk:=λy=>#[.string t,y]) (λ_=>rfl)
   (Da t ht _ w) ((((vQ _ w).alloc (bQ _) _).alloc (by simp) _).alloc (by simp; omega) _) (by simp; omega) (λ_=>rfl) (Ek w (Np.bj t.data.toList)) (Ej w (Np.bj t.data.toList))
   (Mw _ _ _ (by simp; omega)) (λc=>Va _ _ _ (by simp; omega) c)
   (λk=>k=w.heap.size\/k=w.heap.size+1\/k=w.heap.size+1+1) (by intro k h; omega) (by intro k h; simp; omega)
   ⟨λ_=>Iff.rfl,(b0.alloc _).alloc _,b1.alloc _,b2,⟨by simp,λrest h=>by rw[h]; rfl⟩,(((vQ _ w).alloc (bQ _) _).alloc (by simp) _).alloc (by simp; omega) _⟩ ?round ?done ?stop
  case round=>
   rintro l0 pre x S W cC hI gk;gi_wp2;refine⟨S,RdStep.refl _ _,λk e=>.inl e,gk,?_⟩;intro l W₂ aB;obtain⟨hS,c0,c1,c2,hg,hB⟩:=Mw w _ _ (by simp; omega) pre S W W₂ hI aB;have c0c:=c0.cell;have c1c:=c1.cell;have c2c:=c2.cell;have c0f:=c0.frozen;have c1f:=c1.frozen;have c2f:=c2.frozen;have hlen:=hg.1;have hx:x∈Np.bj t.data.toList:=cC.subset (by simp);have ue:x.length<=60:=by have:=Np.DS hx; rw[bn] at this; omega
   have lO:(⟨x.toArray⟩:ByteArray).size<=140737488355328:=by rw[<-bn]; simp; omega
   obtain⟨rest,sJ⟩:=cC;have kC:Np.fO (Np.bj t.data.toList) 0 false=Np.fO (x::rest) pre.length (tJ pre):=hg.2 _ (by rw[<-sJ]; simp);have HR:=jq sJ;have HG:=jq kC;have Ce:∀ (b:Nat) (u:Value),w.heap.size<=b->Below w.heap.size w (W₂.setCell ⟨b,0,none⟩ u):=λb u hb=>hB.setCell (p:=⟨b,0,none⟩) hb u;have nr:∀ k,S k->k<W₂.heap.size:=λk e=>lQ (gk k e) aB.size;clear sJ kC hg hx;gi_wp2_with (refine⟨trivial,rfl,?_⟩; gi_at_call 158; refine (CallsIn.inRound l (callsIn_wide.2 (VB _ lO _))).mono ?_; rintro e w' ⟨rfl,rfl⟩)
   ·exact Hw hS (RdStep.setCell (RdStep.refl S W₂) (p:=⟨w.heap.size+1,0,none⟩) (.inl ((hS _).2 (.inr (.inl rfl)))) _) nr (fG c0 (p:=⟨w.heap.size+1,0,none⟩) (by simp) _) (Ce _ _ (by omega))
     (by rw[HG.out]; have:tJ pre=true:=by assumption
         simp[Np.fO,this])
   ·exact Hw hS (RdStep.setCell (RdStep.refl S W₂) (p:=⟨w.heap.size+1,0,none⟩) (.inl ((hS _).2 (.inr (.inl rfl)))) _) nr (fG c0 (p:=⟨w.heap.size+1,0,none⟩) (by simp) _) (Ce _ _ (by omega))
     (by rw[HG.out]; have:8<pre.length+1:=by omega
         simp[Np.fO,this])
   ·have fB:x = [42]:=by assumption
    have e:(x == [42])=true:=by simp[fB]
    have g8:(pre.length:Int)+1<=8:=by assumption
    have h1:¬ tJ pre=true:=by assumption
    have h2:¬ 8<pre.length+1:=by omega
    refine⟨trivial,?_⟩;gi_wp2;exact Pf hS (RdStep.setCell (RdStep.setCell (RdStep.refl S W₂) (p:=⟨w.heap.size+1,0,none⟩) (.inl ((hS _).2 (.inr (.inl rfl)))) _) (p:=⟨w.heap.size+1+1,0,none⟩) (.inl ((hS _).2 (.inr (.inr rfl)))) _) nr
     (fG (fG c0 (p:=⟨w.heap.size+1,0,none⟩) (by simp) _) (p:=⟨w.heap.size+1+1,0,none⟩) (by simp <;> omega) _)
     (fG (c1.set _) (p:=⟨w.heap.size+1+1,0,none⟩) (by simp <;> omega) _) (by rw[e]; exact (fG c2 (p:=⟨w.heap.size+1,0,none⟩) (by simp) _).set _)
     ((Ce _ _ (by omega)).setCell (p:=⟨w.heap.size+1+1,0,none⟩) (by simp; omega) _) HR.out (by omega) (by rw[HG.out]; simp[Np.fO,h1,h2,fB])
   ·have hl:(!x == [42])=true/\(!Np.cF x)=true:=by assumption
    have fB:¬ x = [42]:=by assumption
    exact Hw hS (RdStep.setCell (RdStep.setCell (RdStep.refl S W₂) (p:=⟨w.heap.size+1,0,none⟩) (.inl ((hS _).2 (.inr (.inl rfl)))) _) (p:=⟨w.heap.size+1+1,0,none⟩) (.inl ((hS _).2 (.inr (.inr rfl)))) _) nr
     (fG (fG c0 (p:=⟨w.heap.size+1,0,none⟩) (by simp) _) (p:=⟨w.heap.size+1+1,0,none⟩) (by simp <;> omega) _)
     ((Ce _ _ (by omega)).setCell (p:=⟨w.heap.size+1+1,0,none⟩) (by simp; omega) _)
     (by rw[HG.out]; have h2:Np.cF x=false:=by simpa using hl.2
         simp[Np.fO,fB,h2])
   ·have hl:(!x == [42])=false\/(!Np.cF x)=false:=by assumption
    have fB:¬ x = [42]:=by assumption
    have e:(x == [42])=false:=by simp[fB]
    have g8:(pre.length:Int)+1<=8:=by assumption
    have h1:¬ tJ pre=true:=by assumption
    have h2:¬ 8<pre.length+1:=by omega
    have h3:Np.cF x=true:=by simpa [e] using hl
    exact Pf hS (RdStep.setCell (RdStep.setCell (RdStep.refl S W₂) (p:=⟨w.heap.size+1,0,none⟩) (.inl ((hS _).2 (.inr (.inl rfl)))) _) (p:=⟨w.heap.size+1+1,0,none⟩) (.inl ((hS _).2 (.inr (.inr rfl)))) _) nr
     (fG (fG c0 (p:=⟨w.heap.size+1,0,none⟩) (by simp) _) (p:=⟨w.heap.size+1+1,0,none⟩) (by simp <;> omega) _)
     (fG (c1.set _) (p:=⟨w.heap.size+1+1,0,none⟩) (by simp <;> omega) _) ((fG c2 (p:=⟨w.heap.size+1,0,none⟩) (by simp) _).set _)
     ((Ce _ _ (by omega)).setCell (p:=⟨w.heap.size+1+1,0,none⟩) (by simp; omega) _) HR.out (by omega) (by rw[HG.out]; simp[Np.fO,h1,h2,fB,h3,e])
  case done=>
   rintro D S W hD g9 bM ⟨hS,c0,c1,c2,hg,hB⟩ hK;have c0c:=c0.cell;have c0f:=c0.frozen;have xK:Np.fO (Np.bj t.data.toList) 0 false=true:=by rw[hg.2 [] (by simp)]; rfl
   have FK:w.heap.size≠D:=λe=>g9 ((hS _).2 (.inl e.symm));clear hg;have HE:=jq xK;clear xK;gi_wp2;have hK':(W.setCell ⟨w.heap.size,0,none⟩ (.bool true)).heap[D]?=some (.deferred (some [])):=(wQ _ _ _ _ (by simpa using FK.symm)).trans hK;have c5:=(u7 (c0.set (.bool true)) FK (.deferred none)).cell;exact pI hK' (v:=.bool true) (by simp[results,results96,go_sem,c5]) ⟨by rw[HV.out,HE.out],py (hB.setCell (bQ _) _) (by simp at hD; omega) _⟩
  case stop=>
   rintro D c pre S W hD g9 bM jf ⟨rfl,hS,c0,hg,hB⟩ hK;have FK:w.heap.size≠D:=λe=>g9 ((hS _).2 (.inl e.symm));have HE:=jq hg;clear hg;gi_wp2;have c5:=(u7 c0 FK (.deferred none)).cell;exact pI hK (v:=.bool false) (by simp[results,results96,go_sem,c5]) ⟨by rw[HV.out,HE.out],py hB (by simp at hD; omega) _⟩
theorem nameValid_any(t:ByteArray)(ht:t.size<=140737488355328)(w:World) :
 Calls prog 63 #[.string t] w λe w'=>e = .returned (.bool (Np.aG t.data.toList))/\Below w.heap.size w w':=by
 go_enter func63,ntmps63;go_wp2_with (go_at_call 96; refine (valid_any _ ht _).mono ?_; rintro e w' ⟨rfl,hb⟩);go_ret;exact⟨rfl,hb⟩
end D
section
open Go.RowKit
theorem valid_any(t:ByteArray)(ht:t.size<=140737488355328)(w:World) :
 Calls prog 96 #[.string t] w λe w'=>e = .returned (.bool (Np.aG t.data.toList))/\Below w.heap.size w w':=
 (D.valid_any t ht w).mono λ_ _ h=>⟨h.1,h.2.low⟩
theorem nameValid_any(t:ByteArray)(ht:t.size<=140737488355328)(w:World) :
 Calls prog 63 #[.string t] w λe w'=>e = .returned (.bool (Np.aG t.data.toList))/\Below w.heap.size w w':=
 (D.nameValid_any t ht w).mono λ_ _ h=>⟨h.1,h.2.low⟩
theorem GA(x lo hi:Int)(w:World) :
 Calls prog 193 #[.int .i64 x,.int .i64 lo,.int .i64 hi] w λe w'=>e = .returned (.bool (decide (lo<=x)&&decide (x<=hi)))/\w=w':=by
 by_cases h1:lo<=x
 all_goals
  go_enter func193,ntmps193;go_wp2;go_ret;exact⟨aj (by simp; omega),rfl⟩
theorem Oc(s:ByteArray)(h:1<=s.size):((s.extract 0 1).toList == [42])=Np.fp s.data.toList:=by
 rw[dQ,D9];unfold Np.fp;have hl:1<=s.data.toList.length:=by rw[bn]; exact h
 cases hd:s.data.toList with
 | nil=>rw[hd] at hl; simp at hl
 | cons a r=>rw[Bool.eq_iff_iff]; simp
theorem LT(s:ByteArray)(hs:s.size<=140737488355328)(w:World) :
 Calls prog 194 #[.string s] w λe w'=>e = .returned (.bool (Np.fp s.data.toList))/\w=w':=by
 have h1:1<=s.size->((s.extract 0 1).toList == [42])=Np.fp s.data.toList:=Oc s;have h2:s.size<1->Np.fp s.data.toList=false:=λh=>by
  have:s.data.toList = []:=rQ (by rw[bn]; omega)
  rw[this]; rfl
 have H1:=jq h1;have H2:=jq h2;clear h1 h2;go_enter func194,ntmps194;go_wp2
 ·go_ret;exact⟨aj (H1.out (by omega)),rfl⟩
 ·go_ret;exact⟨aj (H2.out (by omega)).symm,rfl⟩
theorem Zc(s t:ByteArray)(w:World) :
 Calls prog 239 #[.string s,.string t] w λe w'=>e = .returned (.int .i64 (Np.cP s.data.toList t.data.toList))/\w=w':=by
 go_enter func239,ntmps239;go_wp2
 ·have h:Op.bytesLess s.toList t.toList=true:=by assumption
  simp only[dQ] at h;go_ret;exact⟨ik (by simp[Np.cP,h]),rfl⟩
 ·have h:Op.bytesLess s.toList t.toList=false:=by assumption
  have h2:(!s.toList == t.toList)=true:=by assumption
  simp only[dQ] at h h2;have h3:¬ s.data.toList=t.data.toList:=by simpa using h2
  go_ret;exact⟨ik (by rw[Np.cP,Qc (by simp[h]),Qc h3]),rfl⟩
 ·have h:Op.bytesLess s.toList t.toList=false:=by assumption
  have h2:(!s.toList == t.toList)=false:=by assumption
  simp only[dQ] at h h2;have h3:s.data.toList=t.data.toList:=by simpa using h2
  go_ret;exact⟨ik (by rw[Np.cP,Qc (by simp[h]),Qb h3]),rfl⟩
theorem An(s t:Int)(w:World) :
 Calls prog 58 #[.int .i64 s,.int .i64 t] w λe w'=>e = .returned (.int .i64 (Np.cX s t))/\w=w':=by
 go_enter func58,ntmps58;go_wp2
 ·go_ret;exact⟨ik (by rw[Np.cX,Qb ‹_›]),rfl⟩
 ·go_ret;exact⟨ik (by rw[Np.cX,Qc (by omega),Qb ‹_›]),rfl⟩
 ·go_ret;exact⟨ik (by rw[Np.cX,Qc (by omega),Qc (by omega)]),rfl⟩
theorem Dl(c:UInt8):Np.oD c=decide ((97<=(c.toNat:Int)/\(c.toNat:Int)<=122)\/(48<=(c.toNat:Int)/\(c.toNat:Int)<=57)\/(c.toNat:Int)=32):=by
 have h:=oK c 32 (by decide);unfold Np.oD Np.qC Np.nI;rw[show (32:UInt8)=UInt8.ofNat 32 from rfl,h,Bool.eq_iff_iff];simp[UInt8.le_iff_toNat_le];omega
theorem OL(s:ByteArray)(h:(s.size:Int)<1):Np.ke s.data.toList=false:=by
 have:¬ 1<=s.size:=by omega
 simp[Np.ke,this]
theorem OK(s:ByteArray)(h:40<(s.size:Int)):Np.ke s.data.toList=false:=by
 have:¬ s.size<=40:=by omega
 simp[Np.ke,this]
theorem OJ(s:ByteArray)(h0:0<s.size)(h:(s[0].toNat:Int)=32):Np.ke s.data.toList=false:=by
 have e:=oK s[0] 32 (by decide);rw[uQ (by simpa using h)] at e;have e2:s[0]=(32:UInt8):=by simpa using e
 simp[Np.ke,Ai s h0,e2]
theorem OI(s:ByteArray)(h0:s.size - 1<s.size)(h:(s[s.size - 1].toNat:Int)=32):Np.ke s.data.toList=false:=by
 have e:=oK s[s.size - 1] 32 (by decide);rw[uQ (by simpa using h)] at e;have e2:s[s.size - 1]=(32:UInt8):=by simpa using e
 simp[Np.ke,DI s h0,e2]
theorem OH(s:ByteArray)(k:Nat)(hk:k<s.size)(h:Np.oD s[k]=false):Np.ke s.data.toList=false:=by
 have:s.data.toList.all Np.oD=false:=by
  rw[List.all_eq_false];exact⟨s[k],by rw[<-cQ.1 (yl s k hk) |>.2]; exact List.getElem_mem _,by simp[h]⟩
 simp[Np.ke,this]
theorem OG(s:ByteArray)(h1:1<=s.size)(h2:s.size<=40)(h3:¬ (s[0].toNat:Int)=32)(h4:¬ (s[s.size - 1].toNat:Int)=32)(h5:s.data.toList.all Np.oD=true):Np.ke s.data.toList=true:=by
 have e:=oK s[0] 32 (by decide);have e':=oK s[s.size - 1] 32 (by decide);rw[tQ (by simpa using h3)] at e;rw[tQ (by simpa using h4)] at e';have e2:¬ s[0]=(32:UInt8):=by simpa using e
 have e3:¬ s[s.size - 1]=(32:UInt8):=by simpa using e'
 simp[Np.ke,DI s (by omega),Ai s (by omega),e2,e3,h5,h1,h2]
theorem WG(s:ByteArray)(hs:s.size<=140737488355328)(w:World) :
 Calls prog 237 #[.string s] w λe w'=>e = .returned (.bool (Np.ke s.data.toList))/\w=w':=by
 ·go_enter func237,ntmps237;go_wp2
  rotate_right
  ·go_ret;exact⟨aj (OL s ‹_›).symm,rfl⟩
  ·go_ret;exact⟨aj (OK s ‹_›).symm,rfl⟩
  ·go_ret;exact⟨aj (OJ s ‹_› ‹_›).symm,rfl⟩
  ·have h:((s[s.size - 1].toNat:Int) == 32)=true:=by assumption
   go_ret;exact⟨aj (OI s (by omega) (by simpa using h)).symm,rfl⟩
  ·have h2:(s.size:Int)<=40:=by assumption
   have h3:¬ (s[0].toNat:Int)=32:=by assumption
   have h4:((s[s.size - 1].toNat:Int) == 32)=false:=by assumption
   have H4:=jq h4;clear h4;have H3:=jq h3;go_loop [24] (λi=>∃ k:Nat,k<=s.size/\i = .int .i64 k/\(s.data.toList.take k).all Np.oD=true) (λi=>s.size - (intOf i).toNat)
   case atStart=>exact⟨0,jQ _,rfl,rfl⟩
   case round=>
    obtain⟨k,hk,rfl,ha⟩:=hrel;have HA:=jq ha;clear ha;by_cases ab:k<s.size
    ·have hb:=yy s[k];by_cases hf:(97<=(s[k].toNat:Int)/\(s[k].toNat:Int)<=122)\/(48<=(s[k].toNat:Int)/\(s[k].toNat:Int)<=57)\/(s[k].toNat:Int)=32
     ·have hl:Np.oD s[k]=true:=by rw[Dl]; exact uQ hf
      have HL:=jq hl;clear hl;go_wp2
      all_goals first
       | (go_round
          case rel=>exact⟨k+1,by omega,by go_num,Ht s k ab _ HA.out HL.out⟩
          case measure=>simp[intOf] <;> omega)
       | (exfalso
          have hne:((s[k].toNat:Int) != 32)=true:=by assumption
          have Cx:=bne_iff_ne.1 hne;omega)
     ·have hl:Np.oD s[k]=false:=by rw[Dl]; exact tQ hf
      have HL:=jq hl;clear hl;go_wp2
      all_goals first
       | (go_ret; exact⟨aj (OH s k ab HL.out).symm,rfl⟩)
       | (exfalso; omega)
       | (exfalso
          have hne:((s[k].toNat:Int) != 32)=false:=by assumption
          have Cx:(s[k].toNat:Int)=32:=by simpa using hne
          omega)
    ·go_wp2;go_ret;exact⟨aj (OG s (by omega) (by omega) H3.out (by simpa using H4.out) (by have:=HA.out; rwa [DK s k (by omega)] at this)).symm,rfl⟩
def orI:List Int->Int
 | []=>0
 | x::xs=>if x≠0 then x else orI xs
theorem YK(xs:List Int)(h:∀ x∈xs,x=0):orI xs=0:=by
 induction xs with
 | nil=>rfl
 | cons x r ih=>rw[orI,Qc (by simp[h x (by simp)])]; exact ih (λy hy=>h y (by simp[hy]))
theorem Zs(xs:List Int)(k:Nat)(hk:k<xs.length)(h:∀ x∈xs.take k,x=0)(hx:xs[k]≠0):orI xs=xs[k]:=by
 induction xs generalizing k with
 | nil=>simp at hk
 | cons x r ih=>
  cases k with
  | zero=>simp at hx; simp[orI,hx]
  | succ k=>
   have h0:x=0:=h x (by simp);rw[orI,Qc (by simp[h0])];simpa using ih k (by simpa using hk) (λy hy=>h y (by simp[hy])) (by simpa using hx)
theorem Yg(b c:Nat)(xs:List Int)(hl:xs.length<=1000)(w:World)(hc:∀ i x,xs[i]?=some x->w.cell? ⟨b,i,none⟩=some (.int .i64 x)) :
 Calls prog 238 #[.slice (some ⟨b,0,none⟩) xs.length c] w λe w'=>e = .returned (.int .i64 (orI xs))/\w=w':=by
 have HC:=jq hc;clear hc;go_enter func238,ntmps238;go_wp2;go_loop [8] (λi=>∃ k:Nat,k<=xs.length/\i = .int .i64 k/\Hid (∀ x∈xs.take k,x=0)) (λi=>xs.length - (intOf i).toNat)
 case atStart=>exact⟨0,jQ _,rfl,jq (by simp)⟩
 case round=>
  obtain⟨k,hk,rfl,HA⟩:=hrel;by_cases ab:k<xs.length
  ·have hcell:w.cell? ⟨b,k,none⟩=some (.int .i64 xs[k]):=HC.out k _ (aQ ab);go_wp2
   ·have hne:(xs[k] != 0)=true:=by assumption
    go_ret;exact⟨ik (Zs xs k ab HA.out (by simpa using hne)).symm,rfl⟩
   ·have hne:(xs[k] != 0)=false:=by assumption
    go_round
    case rel=>
     refine⟨k+1,by omega,by go_num,jq ?_⟩;rw[fQ ab];intro x hx;rcases List.mem_append.1 hx with h | h
     ·exact HA.out x h
     ·simp at h; subst h; simpa using hne
    case measure=>simp[intOf] <;> omega
  ·go_wp2;go_ret;exact⟨ik (YK xs (by have:=HA.out; rwa [kQ (by omega)] at this)).symm,rfl⟩
theorem ZQ(a b:Np.Datum):Np.qG a b=orI [Np.cP a.text b.text,Np.cX a.n b.n,Np.cX a.m b.m]:=by
 simp only[Np.qG,orI];split
 ·rfl
 ·split
  ·rfl
  ·split
   ·rfl
   ·rename_i h; simpa using h
theorem TG(s t:ByteArray)(n1 m1 n2 m2:Int)(w:World) :
 Calls prog 196 #[.agg #[.string s,.int .i64 n1,.int .i64 m1],.agg #[.string t,.int .i64 n2,.int .i64 m2]] w
  λe w'=>e = .returned (.int .i64 (Np.qG ⟨s.data.toList,n1,m1⟩ ⟨t.data.toList,n2,m2⟩))/\Below w.heap.size w w':=by
 rw[ZQ];go_enter func196,ntmps196;go_wp2;refine LP 15 (by kernel_rfl) (by kernel_rfl) ?_;simp only[List.take_succ_cons,List.take_zero,List.drop_succ_cons,List.drop_zero]
 iterate 4 still_step
 still_call (Calls.still_same (Zc _ _ _))
 iterate 4 still_step
 still_call (Calls.still_same (An _ _ _))
 iterate 4 still_step
 still_call (Calls.still_same (An _ _ _))
 refine wpStill_nil ?_;go_wp2_with fail;refine (Yg (w.heap.size+1+1) 3 [Np.cP s.data.toList t.data.toList,Np.cX n1 n2,Np.cX m1 m2] (by simp) _ ?_).mono ?_
 ·intro i x hx
  match i,hx with
  | 0,hx=>simp at hx; subst hx; go_simp
  | 1,hx=>simp at hx; subst hx; go_simp
  | 2,hx=>simp at hx; subst hx; go_simp
  | i+3,hx=>simp at hx
 ·rintro e w' ⟨rfl,rfl⟩;go_wp2_with fail;go_ret;exact⟨rfl,((((vQ _ w).alloc (bQ _) _).alloc (by simp) _).alloc (by simp; omega) _).drew⟩
def jp(r:Np.Rule):Array Value:=#[.int .i64 r.text,.int .i64 r.leastN,.int .i64 r.mostN,.int .i64 r.leastM,.int .i64 r.mostM,.bool r.even,.bool r.single,.bool r.wild]
theorem TK(k ln mn lm mm:Int)(ev si wi:Bool)(s:ByteArray)(hs:s.size<=140737488355328)(n m:Int)(w:World) :
 Calls prog 195 #[.agg #[.int .i64 k,.int .i64 ln,.int .i64 mn,.int .i64 lm,.int .i64 mm,.bool ev,.bool si,.bool wi],.agg #[.string s,.int .i64 n,.int .i64 m]] w
  λe w'=>e = .returned (.bool (Np.jX ⟨k,ln,mn,lm,mm,ev,si,wi⟩ ⟨s.data.toList,n,m⟩))/\Below w.heap.size w w':=by
 go_enter func195,ntmps195;go_wp2_with (first
  | (go_at_call 193; refine (GA _ _ _ _).mono ?_; rintro e w' ⟨rfl,rfl⟩)
  | (go_at_call 63; refine (nameValid_any _ hs _).mono ?_; rintro e w' ⟨rfl,hb⟩; obtain⟨hc,hf⟩:=tN hb)
  | (go_at_call 194; refine (LT _ hs _).mono ?_; rintro e w' ⟨rfl,rfl⟩)
  | (go_at_call 237; refine (WG _ hs _).mono ?_; rintro e w' ⟨rfl,rfl⟩))
 all_goals
  go_ret;go_light;refine⟨aj ?_,?_⟩
  ·simp_all [Np.jX,Np.vf,dQ] <;> (intros; omega)
  ·first
    | exact ((vQ _ w).alloc (bQ _) _).alloc (by simp) _
    | exact (((vQ _ w).alloc (bQ _) _).alloc (by simp) _).trans (hb.mono (by simp; omega))
end
end Go.Proofs.YtbfbobfbgabjiaaGreatDoor
