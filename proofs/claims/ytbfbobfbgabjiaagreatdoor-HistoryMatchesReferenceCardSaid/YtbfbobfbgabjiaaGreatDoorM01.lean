/- Parts of the proof. No condition. -/
import Derived.Lib.Hide
import Derived.Below
import Derived.RangeFuncRecord
import Derived.Laws.Strings
import Derived.RangeFuncSeq
import Derived.RangeFuncBox
import Derived.WalkKit
import Derived.WalkSpells
import Derived.WalkLawsBesides
import Derived.Deep.QuietTactic
import Derived.BigQuiet
import Derived.Deep.Draws
import Derived.BigGuardPart
import Derived.StillTailTactics
import Derived.Deep.Light
import Derived.OwnWalkIn
import Derived.Maps.AppendAt
import Derived.Laws.AppendOwnNone
import GoSem.Op.String
import Derived.Test.YtbfbobfbgabjiaaGreatDoorProg
import Derived.RangeFuncNested
import Derived.RangeFuncBound
import Derived.RangeFuncCalls
import Derived.RangeFuncLeaves
import Derived.Shelf.Abstract
import Derived.Shelf.RegionOpen
import Derived.TacticsInMore
import Derived.LoopNIn
import Derived.LoopIn
set_option linter.all false
set_option maxRecDepth 100000
set_option maxHeartbeats 8000000
namespace Go.Proofs.YtbfbobfbgabjiaaGreatDoor
open Go.Proofs.Tryz
section
open Go.RowKit
theorem jq{p:Prop}(h:p):Hid p:=Lib.hid h
theorem cl{B:Nat}{w w':World}(h:Below B w w'){b o:Nat}(hb:b<B):w'.cell? ⟨b,o,none⟩=w.cell? ⟨b,o,none⟩:=h.cell hb
theorem aQ.{u}{α:Type u}{l:List α}{i:Nat}(h:i<l.length):l[i]?=some l[i]:=List.getElem?_eq_getElem h
theorem bQ(n:Nat):n≤n:=Nat.le_refl n
theorem cQ.{u}{α:Type u}{i:Nat}{a:α}{l:List α}:l[i]?=some a↔∃ h:i<l.length,l[i]=a:=List.getElem?_eq_some_iff
theorem dQ(b:ByteArray):b.toList=b.data.toList:=ByteArray.toList_eq b
theorem eQ.{u}{α:Type u}{i:Nat}{b:α}{xs:Array α}:xs[i]?=some b↔∃ h:i<xs.size,xs[i]=b:=Array.getElem?_eq_some_iff
theorem fQ.{u}{α:Type u}{i:Nat}{l:List α}(h:i<l.length):l.take (i+1)=l.take i++[l[i]]:=List.take_succ_eq_append_getElem h
theorem gQ.{u}{α:Type u}{l:List α}{i:Nat}{a:α}(e:l[i]?=some a):a∈l:=List.mem_of_getElem? e
theorem Qh.{u}{α:Type u}{a:α}:¬a∈([]:List α):=List.not_mem_nil
theorem iQ{w w':World}{a:Addr}(h:w'.heap[a.block]?=w.heap[a.block]?):w'.cell? a=w.cell? a:=World.cell?_of_block h
theorem jQ(n:Nat):0≤n:=Nat.zero_le n
theorem kQ.{u}{α:Type u}{i:Nat}{l:List α}(h:l.length≤i):l.take i=l:=List.take_of_length_le h
theorem lQ{n m k:Nat}:n<m→m≤k→n<k:=Nat.lt_of_lt_of_le
theorem mQ.{u}{α:Type u}(y:α){a:α}{l:List α}:a∈l→a∈y::l:=List.mem_cons_of_mem y
theorem nQ.{u}{α:Type u}{a:α}{l:List α}:a∈l↔∃ (i:Nat) (h:i<l.length),l[i]=a:=List.mem_iff_getElem
theorem oQ.{u}{α:Type u}{l₁ l₂:List α}{i:Nat}:l₁.length≤i→(l₁++l₂)[i]?=l₂[i-l₁.length]?:=List.getElem?_append_right
theorem pQ.{u}{α:Type u}{xs:Array α}{i:Nat}(h:i<xs.size):xs[i]?=some xs[i]:=Array.getElem?_eq_getElem h
theorem rQ.{u}{α:Type u}{l:List α}:l.length=0→l=[]:=List.eq_nil_of_length_eq_zero
theorem sQ.{u}{α:Type u}{i:Nat}{l:List α}(h:i<l.length):l.drop i=l[i]::l.drop (i+1):=List.drop_eq_getElem_cons h
theorem tQ{p:Prop}[Decidable p]:¬p→decide p=false:=decide_eq_false
theorem uQ{p:Prop}[Decidable p]:p→decide p=true:=decide_eq_true
theorem vQ(B:Nat)(w:World):Below B w w:=Below.refl B w
theorem wQ(w:World)(a:Addr)(u:Value)(k:Nat)(h:k≠a.block):(w.setCell a u).heap[k]?=w.heap[k]?:=Below.heap_setCell w a u k h
theorem xQ(w:World)(a b:Addr)(v:Value)(h:a≠b):(w.setCell a v).cell? b=w.cell? b:=World.cell?_setCell_other w a b v h
theorem yQ{n m k:Nat}:n≤m→m≤k→n≤k:=Nat.le_trans
theorem zQ{r k:Nat}{o:Obj}{w:World}(h:k≠r):(w.putObj r o).heap[k]?=w.heap[k]?:=World.putObj_heap_other h
theorem Qa{p:Prop}[Decidable p]:(decide p=true)=p:=decide_eq_true_eq
theorem Qb.{u}{c:Prop}{h:Decidable c}(hc:c){α:Sort u}{t e:α}:ite c t e=t:=if_pos hc
theorem Qc.{u}{c:Prop}{h:Decidable c}(hn:¬c){α:Sort u}{t e:α}:ite c t e=e:=if_neg hn
theorem Qd.{u,v}{α:Sort u}{β:Sort v}{a b:α}(f:α->β)(h:a=b):f a=f b:=congrArg f h
structure ItStep(B:Nat)(S:Nat->Prop)(W W':World):Prop where
 os:W'.os=W.os
 tape:W'.tape=W.tape
 output:W'.output=W.output
 size:W.heap.size<=W'.heap.size
 keep:∀ k,k<W.heap.size->(k<B\/S k)->W'.heap[k]?=W.heap[k]?
structure RdStep(S:Nat->Prop)(W W':World):Prop where
 os:W'.os=W.os
 tape:W'.tape=W.tape
 output:W'.output=W.output
 size:W.heap.size<=W'.heap.size
 keep:∀ k,k<W.heap.size->¬ S k->W'.heap[k]?=W.heap[k]?
theorem ItStep.refl(B:Nat)(S:Nat->Prop)(W:World):ItStep B S W W:=⟨rfl,rfl,rfl,bQ _,λ_ _ _=>rfl⟩
theorem RdStep.refl(S:Nat->Prop)(W:World):RdStep S W W:=⟨rfl,rfl,rfl,bQ _,λ_ _ _=>rfl⟩
theorem ItStep.trans{B:Nat}{S:Nat->Prop}{A W C:World}(h:ItStep B S A W)(k:ItStep B S W C):ItStep B S A C:=
 ⟨k.os.trans h.os,k.tape.trans h.tape,k.output.trans h.output,yQ h.size k.size,λi hi hs=>(k.keep i (lQ hi h.size) hs).trans (h.keep i hi hs)⟩
theorem RdStep.trans{S S':Nat->Prop}{A W C:World}(h:RdStep S A W)(k:RdStep S' W C)(hS:∀ i,S' i->S i\/A.heap.size<=i):RdStep S A C:=
 ⟨k.os.trans h.os,k.tape.trans h.tape,k.output.trans h.output,yQ h.size k.size,λi hi hs=>
  (k.keep i (lQ hi h.size) (λe=>by rcases hS i e with e | e; exact hs e; omega)).trans (h.keep i hi hs)⟩
theorem RdStep.mono{S S':Nat->Prop}{A W:World}(h:RdStep S A W)(hS:∀ i,S i->S' i):RdStep S' A W:=
 ⟨h.os,h.tape,h.output,h.size,λi hi hs=>h.keep i hi (λe=>hs (hS i e))⟩
theorem ItStep.of_below{B:Nat}{S:Nat->Prop}{A W:World}(h:Below A.heap.size A W):ItStep B S A W:=
 ⟨h.os,h.tape,h.output,h.size,λk hk _=>h.block k hk⟩
theorem RdStep.of_below{S:Nat->Prop}{A W:World}(h:Below A.heap.size A W):RdStep S A W:=
 ⟨h.os,h.tape,h.output,h.size,λk hk _=>h.block k hk⟩
theorem RdStep.below{S:Nat->Prop}{A W:World}{n:Nat}(h:RdStep S A W)(hn:n<=A.heap.size)(hS:∀ k,S k->n<=k):Below n A W:=
 ⟨h.os,h.tape,h.output,h.size,λk hk=>h.keep k (by omega) (λe=>by have:=hS k e; omega)⟩
theorem RdStep.setCell{S:Nat->Prop}{A W:World}(h:RdStep S A W){p:Addr}(hp:S p.block\/A.heap.size<=p.block)(u:Value):RdStep S A (W.setCell p u):=
 ⟨h.os,h.tape,h.output,by simpa [World.setCell] using h.size,λk hk hs=>(wQ _ _ _ _ (by rintro rfl; rcases hp with hp | hp; exact hs hp; omega)).trans (h.keep k hk hs)⟩
theorem RdStep.alloc{S:Nat->Prop}{A W:World}(h:RdStep S A W)(o:Obj):RdStep S A (W.alloc o):=
 ⟨h.os,h.tape,h.output,yQ h.size (by simp),λk hk hs=>(Below.heap_alloc _ _ _ (lQ hk h.size)).trans (h.keep k hk hs)⟩
theorem RdStep.drew{S:Nat->Prop}{A W:World}(h:RdStep S A W):RdStep S A W.drew:=⟨h.os,h.tape,h.output,h.size,h.keep⟩
theorem RdStep.grown{S:Nat->Prop}{A W C:World}{row:Option Nat}(h:RdStep S A W)(hg:W.grownBy C row)(hr:∀ k,row=some k->S k\/A.heap.size<=k):RdStep S A C:=
 ⟨hg.os.trans h.os,hg.tape.trans h.tape,hg.output.trans h.output,yQ h.size hg.size,λk hk hs=>
  (hg.block k (lQ hk h.size) (λe=>by rcases hr k e.symm with e' | e'; exact hs e'; omega)).trans (h.keep k hk hs)⟩
theorem RdStep.then_below{S:Nat->Prop}{A W C:World}(h:RdStep S A W)(k:Below W.heap.size W C):RdStep S A C:=
 ⟨k.os.trans h.os,k.tape.trans h.tape,k.output.trans h.output,yQ h.size k.size,λi hi hs=>(k.block i (lQ hi h.size)).trans (h.keep i hi hs)⟩
def gh{β:Type}(B:Nat)(J:β->(Nat->Prop)->World->Prop):Prop:=∀ s S W W',J s S W->ItStep B S W W'->J s S W'
def D5{α:Type}(J Jx:List α->(Nat->Prop)->World->Prop)(pre:List α)(x:α)(S:Nat->Prop)(W:World)(e:Ending)(W':World):Prop:=
 ∃ S':Nat->Prop,RdStep S W W'/\(∀ k,S' k->S k\/W.heap.size<=k)/\(∀ k,S' k->k<W'.heap.size)/\
   ((e = .returned (.bool true)/\J (pre ++ [x]) S' W')\/(e = .returned (.bool false)/\Jx (pre ++ [x]) S' W'))
def vK{α:Type}(P:Program)(gf:FuncId)(mk:Value->Array Value)(encs:α->Array Value)(xs:List α)(n₀:Nat)(w:World):Prop:=
 ∀ (l:Nat) (J Jx:List α->(Nat->Prop)->World->Prop) (S:Nat->Prop) (W:World),Below n₀ w W->
   gh W.heap.size J->gh W.heap.size Jx->
   (∀ pre x S1 W1,pre ++ [x] <+: xs->J pre S1 W1->(∀ k,S1 k->k<W1.heap.size)->W.heap.size<=W1.heap.size->
     YieldAt Fence.wide 0 P l (encs x) W1 (D5 J Jx pre x S1 W1))->
   (∀ k,S k->n₀<=k)->(∀ k,S k->k<W.heap.size)->J [] S W->
   CallsIn Fence.wide 0 P gf (mk (.func (.yield l) #[] #[])) W λe W'=>(∃ v,e = .returned v)/\
    ((∃ S',J xs S' W'/\(∀ k,S' k->S k\/W.heap.size<=k))\/(∃ pre S',pre <+: xs/\Jx pre S' W'/\(∀ k,S' k->S k\/W.heap.size<=k)))
def nF{α:Type}(I:List α->(Nat->Prop)->World->Prop)(Ix:Code->List α->(Nat->Prop)->World->Prop)(xs:List α)(S:Nat->Prop)(W:World):Exit->Act->World->Prop
 | .normal,_,W'=>∃ S',RdStep S W W'/\(∀ k,S' k->S k\/W.heap.size<=k)/\(∀ k,S' k->k<W'.heap.size)/\I xs S' W'
 | .ret,_,W'=>∃ S',RdStep S W W'/\(∀ k,S' k->S k\/W.heap.size<=k)/\(∀ k,S' k->k<W'.heap.size)/\Ix .ret xs S' W'
 | .exit id,_,W'=>∃ S',RdStep S W W'/\(∀ k,S' k->S k\/W.heap.size<=k)/\(∀ k,S' k->k<W'.heap.size)/\Ix (.exit id) xs S' W'
 | _,_,_=>False
theorem jH{B:Nat}{S:Nat->Prop}{W:World}{l:Nat}(o:Obj)(hl:B<=l)(hS:¬ S l):ItStep B S W (W.putObj l o):=
 ⟨rfl,rfl,rfl,by simp,λk _ hk=>zQ (by rintro rfl; rcases hk with hk | hk; omega; exact hS hk)⟩
theorem tD{B:Nat}{S:Nat->Prop}{W:World}(o:Obj):ItStep B S W (W.alloc o):=
 ⟨rfl,rfl,rfl,by simp,λk hk _=>Below.heap_alloc _ _ _ hk⟩
theorem ItStep.weaken{B B':Nat}{S S':Nat->Prop}{W W':World}(h:ItStep B S W W')(hB:B'<=B)(hS:∀ k,S' k->S k):ItStep B' S' W W':=
 ⟨h.os,h.tape,h.output,h.size,λk hk hs=>h.keep k hk (hs.imp (λe=>by omega) (hS k))⟩
theorem Gz{α:Type}{P:Program}{g:Operand}{ps:Array Tmp}{assign body:Code}{Q:Exit->Act->World->Prop}{a:Act}{w:World}
 {gf:FuncId} {first captured:Array Value} (hg:a.eval g = .func (.func gf) first captured) (eg:∀ args w,(callFunc gf args).run P w = .ok (.enter gf args) w)
 {mk:Value->Array Value} {encs:α->Array Value} {xs:List α} {n₀:Nat} {w0:World} (gL:∀ y,mk y=first ++ #[y]++captured)
 (hit:vK P gf mk encs xs n₀ w0) (da:Below n₀ w0 w) (mo:n₀<=w.heap.size) (ew:∀ x,(encs x).size=ps.size)
 (I:List α->(Nat->Prop)->World->Prop) (Ix:Code->List α->(Nat->Prop)->World->Prop) (A:List α->α->(Nat->Prop)->Act->World->Prop)
 (hI:gh w.heap.size I) (jB:∀ c,gh w.heap.size (Ix c)) (hA:∀ pre x S a' W W',A pre x S a' W->ItStep w.heap.size S W W'->A pre x S a' W')
 (S0:Nat->Prop) (qi:∀ k,S0 k->n₀<=k) (ls:∀ k,S0 k->k<w.heap.size) (h0:I [] S0 w)
 (CR:∀ (l:Nat) (pre:List α) (x:α) (S:Nat->Prop) (W:World),pre ++ [x] <+: xs->I pre S W->(∀ k,S k->k<W.heap.size)->
   assign.wpIn (Fence.wide.inRound l) 0 P (Exit.then (λa₁ W₁=>∃ S',RdStep S W W₁/\(∀ k,S' k->S k\/W.heap.size<=k)/\(∀ k,S' k->k<W₁.heap.size)/\A pre x S' a₁ W₁) (λ_ _ _=>False))
    { tmps:=(ps.zip (encs x)).foldl (λt (p,v)=>t.setIfInBounds p v) a.tmps,defers:=[] } W)
 (BA:∀ (l:Nat) (pre:List α) (x:α) (S:Nat->Prop) (a₁:Act) (W:World),pre ++ [x] <+: xs->A pre x S a₁ W->(∀ k,S k->k<W.heap.size)->
   body.wpIn (Fence.wide.inRound l) 0 P (nF I Ix (pre ++ [x]) S W) a₁ W)
 (nT:∀ (D:Nat) (S:Nat->Prop) (W:World),w.heap.size<=D->¬ S D->(∀ k,S k->S0 k\/w.heap.size<=k)->I xs S W->W.heap[D]?=some (.deferred (some []))->
   Q .normal { a with defers:={ target:=.collected D,args:=#[] } :: a.defers } W)
 (gj:∀ (D:Nat) (c:Code) (pre:List α) (S:Nat->Prop) (W:World),w.heap.size<=D->¬ S D->(∀ k,S k->S0 k\/w.heap.size<=k)->pre <+: xs->Ix c pre S W->W.heap[D]?=some (.deferred (some []))->
   c.wpIn Fence.wide 0 P Q { a with defers:={ target:=.collected D,args:=#[] } :: a.defers } W) :
 (Code.rangeFunc g ps assign body).wpIn Fence.wide 0 P Q a w:=by
 refine wpIn_rangeFunc ?_;intro fn gK;show ∃ (l:Nat) (mark:List Deferred) (w₁:World) (d:Deferred) (w₁':World) (f:FuncId) (args:Array Value) (w₂:World),(Instr.enterLoop fn a.tmps ps assign body none).run P w = .ok (l,mark) w₁/\_;obtain⟨rec,fK⟩:∃ rec:LoopState->Option Code->Loop,rec=λst pe=>{ state:=st,pending:=pe,fn,tmps:=a.tmps,params:=ps,assign,body,defers:=w.heap.size }:=⟨_,rfl⟩;obtain⟨W1,ae⟩:∃ W1,(w.alloc (.deferred (some []))).alloc (.loop (rec .ready none))=W1:=⟨_,rfl⟩;have an:W1.heap.size=w.heap.size+2:=by rw[<-ae]; simp
 have iH:W1.heap[w.heap.size+1]?=some (.loop (rec .ready none)):=by
  rw[<-ae]; have:=World.alloc_heap_new (w.alloc (.deferred (some []))) (.loop (rec .ready none)); rwa [World.size_alloc] at this
 have CL:W1.heap[w.heap.size]?=some (.deferred (some [])):=by
  rw[<-ae]; exact (Below.heap_alloc _ _ _ (by simp)).trans (World.alloc_heap_new w _)
 have mp:I [] S0 W1:=by rw[<-ae]; exact hI _ _ _ _ (hI _ _ _ _ h0 (tD _)) (tD _)
 have aq:Below n₀ w0 W1:=by
  rw[<-ae]; exact da.trans ((((vQ _ w).alloc (bQ _) _).alloc (by simp) _).mono mo)
 refine⟨w.heap.size+1,[{ target:=.collected w.heap.size,args:=#[] }],W1,{ target:=.fn (.func gf) captured,args:=first ++ #[.func (.yield (w.heap.size+1)) #[] #[]] },W1,gf,
  first ++ #[.func (.yield (w.heap.size+1)) #[] #[]]++captured,W1,?_,?_,?_,?_,λh=>by simp[Fence.wide] at h,?_⟩
 ·rw[<-ae,fK]; exact run_enterLoop_outer _ _ _ _ _
 ·simp only[resolve,hg];simp[go_sem]
 ·intro f' _; trivial
 ·simp[invoke,go_sem,eg]
 ·rw[<-gL];have key:=hit (w.heap.size+1)
   (λpre Si W=>∃ S:Nat->Prop,(∀ k,Si k↔S k\/k=w.heap.size+1)/\(¬ S w.heap.size)/\(¬ S (w.heap.size+1))/\(∀ k,S k->S0 k\/w.heap.size<=k)/\I pre S W/\W.heap[w.heap.size+1]?=some (.loop (rec .ready none))/\W.heap[w.heap.size]?=some (.deferred (some [])))
   (λpre Si W=>∃ (S:Nat->Prop) (c:Code),(∀ k,Si k↔S k\/k=w.heap.size+1)/\(¬ S w.heap.size)/\(¬ S (w.heap.size+1))/\(∀ k,S k->S0 k\/w.heap.size<=k)/\Ix c pre S W/\W.heap[w.heap.size+1]?=some (.loop (rec .done (some c)))/\W.heap[w.heap.size]?=some (.deferred (some [])))
   (λk=>S0 k\/k=w.heap.size+1) W1 aq ?_ ?_ ?_ ?_ ?_ ?_
  ·refine key.mono ?_;rintro e W2 ⟨⟨v,rfl⟩,(⟨S',⟨S,dw,hD,hL,bM,hi,hl,hk⟩,_⟩ | ⟨pre,S',jf,⟨S,c,dw,hD,hL,bM,hi,hl,hk⟩,_⟩)⟩
   ·refine⟨none,_,by have:=run_endLoop (P:=P) hl (by rw[fK]; simp); rw[fK] at this; exact this,?_⟩;exact nT _ S _ (bQ _) hD bM (hI _ _ _ _ hi (jH _ (by omega) hL)) ((zQ (by omega)).trans hk)
   ·refine⟨some c,_,by have:=run_endLoop (P:=P) hl (by rw[fK]; simp); rw[fK] at this; exact this,?_⟩;exact gj _ c pre S _ (bQ _) hD bM jf ((jB c) _ _ _ _ hi (jH _ (by omega) hL)) ((zQ (by omega)).trans hk)
  ·rintro pre Si A1 B1 ⟨S,dw,hD,hL,bM,hi,hl,hk⟩ aB;have ab:w.heap.size+1<A1.heap.size:=(eQ.1 hl).1;exact⟨S,dw,hD,hL,bM,hI _ _ _ _ hi (aB.weaken (by omega) (λk e=>(dw k).2 (.inl e))),(aB.keep _ ab (.inl (by omega))).trans hl,(aB.keep _ (by omega) (.inl (by omega))).trans hk⟩
  ·rintro pre Si A1 B1 ⟨S,c,dw,hD,hL,bM,hi,hl,hk⟩ aB;have ab:w.heap.size+1<A1.heap.size:=(eQ.1 hl).1;exact⟨S,c,dw,hD,hL,bM,jB c _ _ _ _ hi (aB.weaken (by omega) (λk e=>(dw k).2 (.inl e))),(aB.keep _ ab (.inl (by omega))).trans hl,(aB.keep _ (by omega) (.inl (by omega))).trans hk⟩
  ·
   rintro pre x Si W cC ⟨S,dw,hD,hL,bM,hi,hl,hk⟩ gk LI;have ab:w.heap.size+1<W.heap.size:=(eQ.1 hl).1;have AT:∀ k,S k->k<W.heap.size:=λk e=>gk k ((dw k).2 (.inl e));have hy:=run_yield (P:=P) (args:=encs x) hl (by rw[fK]; exact ew x);rw[fK] at hy;refine⟨fn,_,assign,body,hy,roundIn_of_wpIn gK (wpIn_mono (CR _ pre x S W cC hi AT) ?_)⟩;intro e a1 Wa hq
   cases e with
   | normal=>
    obtain⟨S1,gw,aZ,Bk,Cg⟩:=hq;have tS:¬ S1 w.heap.size:=λe=>by rcases aZ _ e with e | e; exact hD e; omega
    have p9:¬ S1 (w.heap.size+1):=λe=>by rcases aZ _ e with e | e; exact hL e; omega
    have pY:Wa.heap[w.heap.size+1]?=some (.loop (rec .ready none)):=(gw.keep _ ab hL).trans hl;have Cn:Wa.heap[w.heap.size]?=some (.deferred (some [])):=(gw.keep _ (by omega) hD).trans hk;have uI:w.heap.size+1<Wa.heap.size:=(eQ.1 pY).1;refine⟨_,run_beginRound pY (by rw[fK]),?_⟩;have hb:=BA (w.heap.size+1) pre x S1 a1 (Wa.putObj (w.heap.size+1) (.loop { rec .ready none with state:=.busy })) cC (hA _ _ _ _ _ _ Cg (jH _ (by omega) p9)) (λk e=>by simpa using Bk k e);refine wpIn_mono hb ?_;have fin:∀ (jump:Option Code) (W3:World) (S3:Nat->Prop),RdStep S1 (Wa.putObj (w.heap.size+1) (.loop { rec .ready none with state:=.busy })) W3->(∀ k,S3 k->S1 k\/(Wa.putObj (w.heap.size+1) (.loop { rec .ready none with state:=.busy })).heap.size<=k)->(∀ k,S3 k->k<W3.heap.size)->
     (Instr.endRound (w.heap.size+1) jump).run P W3 = .ok (.bool jump.isNone) (W3.putObj (w.heap.size+1) (.loop (rec (if jump.isNone then .ready else .done) jump)))/\
     (W3.putObj (w.heap.size+1) (.loop (rec (if jump.isNone then .ready else .done) jump))).heap[w.heap.size+1]?=some (.loop (rec (if jump.isNone then .ready else .done) jump))/\
     (W3.putObj (w.heap.size+1) (.loop (rec (if jump.isNone then .ready else .done) jump))).heap[w.heap.size]?=some (.deferred (some []))/\
     ¬ S3 w.heap.size/\¬ S3 (w.heap.size+1)/\(∀ k,S3 k->S k\/W.heap.size<=k)/\
     RdStep Si W (W3.putObj (w.heap.size+1) (.loop (rec (if jump.isNone then .ready else .done) jump))):=λjump W3 S3 dj dO dl=>by
     have dz:(Wa.putObj (w.heap.size+1) (.loop { rec .ready none with state:=.busy })).heap[w.heap.size+1]?=some (.loop { rec .ready none with state:=.busy }):=World.putObj_heap_same uI;have kW:(Wa.putObj (w.heap.size+1) (.loop { rec .ready none with state:=.busy })).heap[w.heap.size]?=some (.deferred (some [])):=(zQ (by omega)).trans Cn;have oi:=(dj.keep _ (by simpa using uI) p9).trans dz;have no:=(dj.keep _ (by simp; omega) tS).trans kW;have nX:=(eQ.1 oi).1
     have:=run_endRound (P:=P) jump oi
     rw[fK] at this |-;have lI:=dj.size;have sh:=gw.size;simp only[World.putObj_size] at lI dO;refine⟨this,World.putObj_heap_same nX,(zQ (by omega)).trans no,λe=>?_,λe=>?_,λk e=>?_,?_⟩
     ·rcases dO _ e with e | e; exact tS e; omega
     ·rcases dO _ e with e | e; exact p9 e; omega
     ·rcases dO _ e with e | e
      ·exact aZ _ e
      ·right; omega
     ·refine⟨dj.os.trans gw.os,dj.tape.trans gw.tape,dj.output.trans gw.output,by simp; omega,λk hk' uq=>?_⟩;have mV:k≠w.heap.size+1:=λe=>uq ((dw k).2 (.inr e));have uj:¬ S k:=λe=>uq ((dw k).2 (.inl e));have Bu:¬ S1 k:=λe=>by rcases aZ _ e with e | e; exact uj e; omega
      exact (zQ mV).trans ((dj.keep k (by simp; omega) Bu).trans ((zQ mV).trans (gw.keep k hk' uj)))
    have fin2:∀ (S3:Nat->Prop) (W3:World) (o:Obj),(∀ k,S3 k->k<W3.heap.size)->W.heap.size<=W3.heap.size->(∀ k,S3 k->S k\/W.heap.size<=k)->
     (∀ k,(S3 k\/k=w.heap.size+1)->Si k\/W.heap.size<=k)/\(∀ k,(S3 k\/k=w.heap.size+1)->k<(W3.putObj (w.heap.size+1) o).heap.size):=λS3 W3 o h1 h2 h3=>
     ⟨λk e=>by rcases e with e | e; exact (h3 k e).imp (λe'=>(dw k).2 (.inl e')) id; exact .inl ((dw k).2 (.inr e)),λk e=>by
      simp only[World.putObj_size];rcases e with e | e
      ·exact h1 k e
      ·omega⟩
    have sub3:∀ (S3:Nat->Prop),(∀ k,S3 k->S k\/W.heap.size<=k)->∀ k,S3 k->S0 k\/w.heap.size<=k:=λS3 h k e=>by
     rcases h k e with e | e
     ·exact bM k e
     ·right; omega
    rintro e a3 W3 hp
    cases e with
    | normal=>
     obtain⟨S3,dj,dO,dl,lj⟩:=hp;obtain⟨hr,k9,kB,iB,gv,dZ,bA⟩:=fin none W3 S3 dj dO dl;have an:W.heap.size<=W3.heap.size:=by simpa using bA.size
     refine⟨_,_,hr,λk=>S3 k\/k=w.heap.size+1,bA,(fin2 S3 W3 (.deferred none) dl an dZ).1,(fin2 S3 W3 _ dl an dZ).2,.inl ⟨rfl,S3,λ_=>Iff.rfl,iB,gv,sub3 S3 dZ,hI _ _ _ _ lj (jH _ (by omega) gv),k9,kB⟩⟩
    | ret=>
     obtain⟨S3,dj,dO,dl,lj⟩:=hp;obtain⟨hr,k9,kB,iB,gv,dZ,bA⟩:=fin (some .ret) W3 S3 dj dO dl;have an:W.heap.size<=W3.heap.size:=by simpa using bA.size
     refine⟨_,_,hr,λk=>S3 k\/k=w.heap.size+1,bA,(fin2 S3 W3 (.deferred none) dl an dZ).1,(fin2 S3 W3 _ dl an dZ).2,.inr ⟨rfl,S3,.ret,λ_=>Iff.rfl,iB,gv,sub3 S3 dZ,jB _ _ _ _ _ lj (jH _ (by omega) gv),k9,kB⟩⟩
    | exit id=>
     obtain⟨S3,dj,dO,dl,lj⟩:=hp;obtain⟨hr,k9,kB,iB,gv,dZ,bA⟩:=fin (some (.exit id)) W3 S3 dj dO dl;have an:W.heap.size<=W3.heap.size:=by simpa using bA.size
     refine⟨_,_,hr,λk=>S3 k\/k=w.heap.size+1,bA,(fin2 S3 W3 (.deferred none) dl an dZ).1,(fin2 S3 W3 _ dl an dZ).2,.inr ⟨rfl,S3,.exit id,λ_=>Iff.rfl,iB,gv,sub3 S3 dZ,jB _ _ _ _ _ lj (jH _ (by omega) gv),k9,kB⟩⟩
    | goto t=>exact hp.elim
    | panic ch=>exact hp.elim
    | outgrown=>exact hp.elim
   | ret=>exact hq.elim
   | exit id=>exact hq.elim
   | goto t=>exact hq.elim
   | panic ch=>exact hq.elim
   | outgrown=>exact hq.elim
  ·rintro k (e | rfl)
   ·exact qi k e
   ·omega
  ·rintro k (e | rfl)
   ·have:=ls k e; omega
   ·omega
  ·exact⟨S0,λ_=>Iff.rfl,λe=>by have:=ls _ e; omega,λe=>by have:=ls _ e; omega,λ_ e=>.inl e,mp,iH,CL⟩
theorem kN{B:Nat}{S:Nat->Prop}{W W':World}{b:Nat}{t:TypeId}{v:Value}(h:Boxed W b t v)(hs:ItStep B S W W')(hb:S b):Boxed W' b t v:=(hs.keep b h.lt (.inr hb)).trans h
theorem vw{n B:Nat}{S:Nat->Prop}{w W W':World}(h:Below n w W)(hs:ItStep B S W W')(hB:n<=B)(hn:n<=w.heap.size):Below n w W':=
 ⟨hs.os.trans h.os,hs.tape.trans h.tape,hs.output.trans h.output,yQ h.size hs.size,λk hk=>(hs.keep k (by have:=h.size; omega) (.inl (by omega))).trans (h.block k hk)⟩
theorem fC{n:Nat}{W W':World}{b:Nat}{t:TypeId}{v:Value}(h:Boxed W b t v)(hs:Below n W W')(hb:b<n):Boxed W' b t v:=(hs.block b hb).trans h
theorem fG{W:World}{b:Nat}{t:TypeId}{v:Value}(h:Boxed W b t v){p:Addr}(hp:b≠p.block)(u:Value):Boxed (W.setCell p u) b t v:=(wQ W p u b hp).trans h
theorem nJ{P:Program}{fn:Func}{R:Ending->World->Prop}{tmps:Array Value}{w:World}{v:Value}(sA:(results fn tmps).run P w = .ok v w)(hR:R (.returned v) w) :
 bodyPostM Fence.wide 0 P fn R .ret { tmps:=tmps,defers:=[] } w:=⟨_,sA,hR⟩
theorem pI{P:Program}{fn:Func}{R:Ending->World->Prop}{tmps:Array Value}{W:World}{D:Nat}{v:Value}(hK:W.heap[D]?=some (.deferred (some [])))
 (sA:(results fn tmps).run P (W.putObj D (.deferred none)) = .ok v (W.putObj D (.deferred none))) (hR:R (.returned v) (W.putObj D (.deferred none))) :
 bodyPostM Fence.wide 0 P fn R .ret { tmps:=tmps,defers:=[{ target:=.collected D,args:=#[] }] } W:=
 ⟨by simp,.inl ⟨_,_,rfl,run_takeDeferred hK,_,sA,hR⟩⟩
theorem py{n D:Nat}{w W:World}(h:Below n w W)(hD:n<=D)(o:Obj):Below n w (W.putObj D o):=
 ⟨h.os,h.tape,h.output,by simpa using h.size,λk hk=>(zQ (by omega)).trans (h.block k hk)⟩
theorem u7{W:World}{b D:Nat}{t:TypeId}{v:Value}(h:Boxed W b t v)(hD:b≠D)(o:Obj):Boxed (W.putObj D o) b t v:=(zQ hD).trans h
theorem Dh{α:Type}{P:Program}{g:Operand}{ps:Array Tmp}{assign body:Code}{Q:Exit->Act->World->Prop}{a:Act}{w:World}
 {gf:FuncId} {first captured:Array Value} (hg:a.eval g = .func (.func gf) first captured) (eg:∀ args w,(callFunc gf args).run P w = .ok (.enter gf args) w)
 {mk:Value->Array Value} {encs:α->Array Value} {xs:List α} {n₀:Nat} {w0:World} (gL:∀ y,mk y=first ++ #[y]++captured)
 (hit:vK P gf mk encs xs n₀ w0) (da:Below n₀ w0 w) (mo:n₀<=w.heap.size) (ew:∀ x,(encs x).size=ps.size)
 (I:List α->(Nat->Prop)->World->Prop) (Ix:Code->List α->(Nat->Prop)->World->Prop)
 (hI:gh w.heap.size I) (jB:∀ c,gh w.heap.size (Ix c))
 (S0:Nat->Prop) (qi:∀ k,S0 k->n₀<=k) (ls:∀ k,S0 k->k<w.heap.size) (h0:I [] S0 w)
 (Cu:∀ (l0:Nat) (pre:List α) (x:α) (S:Nat->Prop) (W:World),pre ++ [x] <+: xs->I pre S W->(∀ k,S k->k<W.heap.size)->
   assign.wpIn (Fence.wide.inRound l0) 0 P (Exit.then (λa₁ W₁=>∃ S',RdStep S W W₁/\(∀ k,S' k->S k\/W.heap.size<=k)/\(∀ k,S' k->k<W₁.heap.size)/\
    ∀ l W₂,ItStep w.heap.size S' W₁ W₂->body.wpIn (Fence.wide.inRound l) 0 P (nF I Ix (pre ++ [x]) S' W₂) a₁ W₂) (λ_ _ _=>False))
    { tmps:=(ps.zip (encs x)).foldl (λt (p,v)=>t.setIfInBounds p v) a.tmps,defers:=[] } W)
 (nT:∀ (D:Nat) (S:Nat->Prop) (W:World),w.heap.size<=D->¬ S D->(∀ k,S k->S0 k\/w.heap.size<=k)->I xs S W->W.heap[D]?=some (.deferred (some []))->
   Q .normal { a with defers:={ target:=.collected D,args:=#[] } :: a.defers } W)
 (gj:∀ (D:Nat) (c:Code) (pre:List α) (S:Nat->Prop) (W:World),w.heap.size<=D->¬ S D->(∀ k,S k->S0 k\/w.heap.size<=k)->pre <+: xs->Ix c pre S W->W.heap[D]?=some (.deferred (some []))->
   c.wpIn Fence.wide 0 P Q { a with defers:={ target:=.collected D,args:=#[] } :: a.defers } W) :
 (Code.rangeFunc g ps assign body).wpIn Fence.wide 0 P Q a w:=
 Gz hg eg gL hit da mo ew I Ix (λpre x S a₁ W=>∀ l W₂,ItStep w.heap.size S W W₂->body.wpIn (Fence.wide.inRound l) 0 P (nF I Ix (pre ++ [x]) S W₂) a₁ W₂)
  hI jB (λ_ _ _ _ _ _ h hs l W₂ h2=>h l W₂ (hs.trans h2)) S0 qi ls h0 Cu (λl _ _ _ _ W _ h _=>h l W (ItStep.refl _ _ _)) nT gj
def bE(w:World):Type:={ x:World // Below w.heap.size w x }
def bE.w{w:World}(g:bE w):World:=g.1
theorem bE.below{w:World}(g:bE w):Below w.heap.size w g.w:=g.2
instance (w:World):Nonempty (bE w):=⟨⟨w,vQ _ _⟩⟩
theorem bE.cell{w:World}(g:bE w)(p:Addr)(h:p.block<w.heap.size):g.w.cell? p=w.cell? p:=g.2.cell h
theorem bE.frozen{w:World}(g:bE w)(p:Addr)(h:p.block<w.heap.size):g.w.frozen? p=w.frozen? p:=g.2.frozen h
theorem bE.size{w:World}(g:bE w):w.heap.size<=g.w.heap.size:=g.2.size
def AQ(w:World)(w':World):Prop:=∃ g:bE w,w'=g.w
theorem AQ.of{w w':World}(h:Below w.heap.size w w'):AQ w w':=⟨⟨w',h⟩,rfl⟩
theorem Calls.grow_of{P:Program}{f:FuncId}{args:Array Value}{w:World}{g:bE w}{v:Value}
 (h:Calls P f args g.w λe w'=>e = .returned v/\Below g.w.heap.size g.w w'):Calls P f args g.w λe w''=>e = .returned v/\∃ g':bE w,w''=g'.w:=
 h.mono λ_ w' ⟨he,hm⟩=>⟨he,⟨w',g.2.trans (hm.mono g.2.size)⟩,rfl⟩
section
variable {P:Program}
theorem en{id:Nat}{Q:Exit->Act->World->Prop}{a:Act}{w:World}{l:List Oper}(hm:P.follows .mixedOrders=true)(hB:Region.lexB .any l.toArray=true)
 (h:wpQuiet P l.toArray (λw'=>∃ g:bE w,w'=g.w) (λa'=>∀ w',(∃ g:bE w,w'=g.w)->Q .normal a' w') l a):(Code.region id l.toArray true).wp P Q a w:=
 wp_region_quiet (C:=λw'=>∃ g:bE w,w'=g.w) hm hB ⟨⟨_,(vQ w.heap.size w).drew⟩,rfl⟩ (by simpa using h)
end
theorem tN{W w1:World}(hb:Below W.heap.size W w1):(∀ b o,b<W.heap.size->w1.cell? ⟨b,o,none⟩=W.cell? ⟨b,o,none⟩)/\(∀ b o,b<W.heap.size->w1.frozen? ⟨b,o,none⟩=W.frozen? ⟨b,o,none⟩):=
 ⟨λb o h=>hb.cell (p:=⟨b,o,none⟩) h,λb o h=>hb.frozen (p:=⟨b,o,none⟩) h⟩
theorem aj{a b:Bool}(h:a=b):Ending.returned (.bool a) = .returned (.bool b):=by rw[h]
theorem ik{k:IntKind}{a b:Int}(h:a=b):Ending.returned (.int k a) = .returned (.int k b):=by rw[h]
theorem bn(s:ByteArray):s.data.toList.length=s.size:=rfl
theorem yl(s:ByteArray)(k:Nat)(h:k<s.size):s.data.toList[k]?=some s[k]:=by
 rw[aQ (by rw[bn]; exact h)]; rfl
theorem Ai(s:ByteArray)(h:0<s.size):s.data.toList.head?=some s[0]:=by
 rw[List.head?_eq_getElem?]; exact yl s 0 h
theorem DI(s:ByteArray)(h:s.size - 1<s.size):s.data.toList.getLast?=some s[s.size - 1]:=by
 rw[List.getLast?_eq_getElem?,bn]; exact yl s _ h
theorem GZ(s:ByteArray)(k:Nat)(h:k<s.size):s.data.toList.take (k+1)=s.data.toList.take k ++ [s[k]]:=by
 rw[fQ (by simpa using h)]; rfl
theorem DK(s:ByteArray)(k:Nat)(h:s.size<=k):s.data.toList.take k=s.data.toList:=kQ (by rw[bn]; exact h)
theorem oK(c:UInt8)(n:Nat)(hn:n<256):(c == UInt8.ofNat n)=decide ((c.toNat:Int)=n):=by
 rw[Bool.eq_iff_iff];simp only[beq_iff_eq,Qa];constructor
 ·rintro rfl; simp; omega
 ·intro h; apply UInt8.toNat_inj.1; simp; omega
theorem yy(c:UInt8):0<=(c.toNat:Int)/\(c.toNat:Int)<=255:=by have:=UInt8.toNat_lt c; omega
theorem iV{s t:ByteArray}(h:s.data.toList=t.data.toList):s=t:=by
 cases s; cases t; simp only at h |-; congr 1; exact Array.toList_inj.1 h
theorem Hq(s:ByteArray)(i j:Nat):(s.extract i j).data.toList=(s.data.toList.take j).drop i:=by
 rw[ByteArray.data_extract]; simp[Array.toList_extract,List.extract_eq_take_drop,List.drop_take]
theorem DR(s:ByteArray)(i:Nat):(s.extract i s.size).data.toList=s.data.toList.drop i:=by
 rw[Hq,kQ (by rw[bn]; exact bQ _)]
theorem D9(s:ByteArray)(j:Nat):(s.extract 0 j).data.toList=s.data.toList.take j:=by rw[Hq]; rfl
theorem LP{P:Program}{id:Nat}{Q:Exit->Act->World->Prop}{a:Act}{w:World}{l:List Oper}(n:Nat)(hm:P.follows .mixedOrders=true)(hB:Region.lexTailB .any l.toArray n=true)
 (h:wpStill P l.toArray w.drew (λa'=>wpList P l.toArray Q (l.drop n) a' w.drew) (l.take n) a):(Code.region id l.toArray true).wp P Q a w:=wp_region_still_tail n hm hB h
theorem Calls.still_same{P:Program}{f:FuncId}{args:Array Value}{w:World}{v:Value}(h:Calls P f args w λe w'=>e = .returned v/\w=w'):Calls P f args w λe w''=>e = .returned v/\w''=w:=
 h.mono λ_ _ ⟨he,hw⟩=>⟨he,hw.symm⟩
def cN(w:World)(b o:Nat)(e:List Value):Prop:=∀ j v,e[j]?=some v->w.cell? ⟨b,o+j,none⟩=some v
theorem cN.keep{w w':World}{b o:Nat}{e:List Value}{B:Nat}(h:cN w b o e)(hb:Below B w w')(hB:b<B):cN w' b o e:=
 λj v hj=>(hb.cell (p:=⟨b,o+j,none⟩) hB).trans (h j v hj)
def SlR{α:Type}(R:World->Nat->List Value->α->Prop)(sz:Nat)(w:World)(B:Nat)(v:Value)(xs:List α):Prop:=
 ∃ (A:Option Addr) (c:Nat),v = .slice A xs.length c/\xs.length<=c/\xs.length<=140737488355328/\∀ i x,xs[i]?=some x->∃ b o e,A=some ⟨b,o,none⟩/\b<B/\e.length=sz/\cN w b (o+i * sz) e/\R w B e x
def dK{α:Type}(R:World->Nat->List Value->α->Prop):Prop:=∀ w w' B e x,R w B e x->Below B w w'->R w' B e x
theorem SlR.keep{α:Type}{R:World->Nat->List Value->α->Prop}{sz:Nat}{w w':World}{B:Nat}{v:Value}{xs:List α}(hR:dK R)(h:SlR R sz w B v xs)(hb:Below B w w'):SlR R sz w' B v xs:=by
 obtain⟨A,c,hv,hc,hl,he⟩:=h;refine⟨A,c,hv,hc,hl,λi x hx=>?_⟩;obtain⟨b,o,e,hA,hB,bU,hce,hr⟩:=he i x hx;exact⟨b,o,e,hA,hB,bU,hce.keep hb hB,hR _ _ _ _ _ hr hb⟩
def dV{α:Type}(R:World->Nat->List Value->α->Prop):Prop:=∀ w B B' e x,R w B e x->B<=B'->R w B' e x
theorem SlR.more{α:Type}{R:World->Nat->List Value->α->Prop}{sz:Nat}{w:World}{B B':Nat}{v:Value}{xs:List α}(hR:dV R)(h:SlR R sz w B v xs)(hB:B<=B'):SlR R sz w B' v xs:=by
 obtain⟨A,c,hv,hc,hl,he⟩:=h;refine⟨A,c,hv,hc,hl,λi x hx=>?_⟩;obtain⟨b,o,e,hA,hb,bU,hce,hr⟩:=he i x hx;exact⟨b,o,e,hA,by omega,bU,hce,hR _ _ _ _ _ hr hB⟩
theorem fL{W W':World}{base:Nat}{e:TypeId}{size:Nat}{v:Value}{k:Nat}{xs:List Value}(h:W.ownsRow base e size v k xs)(hs:∀ g,v.ownBlock=some g->W'.heap[g]?=W.heap[g]?):W'.ownsRow base e size v k xs:=by
 refine⟨h.1,?_⟩;rcases h.2 with hn | ⟨g,cap,cur,rfl,hb,hg,rest⟩
 ·exact .inl hn
 ·exact .inr ⟨g,cap,cur,rfl,hb,(hs g rfl).trans hg,rest⟩
theorem GF{α:Type}{R:World->Nat->List Value->α->Prop}{sz:Nat}{W:World}{base:Nat}{e:TypeId}{v:Value}{xs:List α}(enc:α->List Value)(hlen:∀ x∈xs,(enc x).length=sz)
 (h:W.ownsRow base e sz v xs.length (xs.flatMap enc)) (hl:xs.length<=140737488355328) (hR:∀ x∈xs,R W W.heap.size (enc x) x):SlR R sz W W.heap.size v xs:=by
 have ajY:∀ (l:List α) (i:Nat) (x:α) (j:Nat) (u:Value),(∀ y∈l,(enc y).length=sz)->l[i]?=some x->(enc x)[j]?=some u->(l.flatMap enc)[i * sz+j]?=some u:=by
  intro l
  induction l with
  | nil=>intro i x j u _ hi; simp at hi
  | cons y l ih=>
   intro i x j u g8 hi hj;rw[List.flatMap_cons];have hy:(enc y).length=sz:=g8 y (by simp)
   cases i with
   | zero=>
    simp at hi; subst hi;rw[List.getElem?_append_left (by have:=(cQ.1 hj).1; omega)];simpa using hj
   | succ i=>
    rw[oQ (by rw[hy,Nat.succ_mul]; omega),hy]
    have:=ih i x j u (λy hy=>g8 y (by simp[hy])) (by simpa using hi) hj
    rw[show (i+1) * sz+j - sz=i * sz+j by rw[Nat.succ_mul]; omega];exact this
 rcases h.2 with ⟨rfl,h0⟩ | ⟨g,cap,cur,rfl,hb,hg,pr,_,_,aoZ⟩
 ·have:xs = []:=rQ h0
  subst this;exact⟨none,0,rfl,by simp,by simp,λi x hx=>by simp at hx⟩
 ·refine⟨_,cap,rfl,pr,hl,λi x hx=>⟨g,0,enc x,rfl,(eQ.1 hg).1,hlen x (gQ hx),λj u hj=>?_,hR x (gQ hx)⟩⟩;have h1:=ajY xs i x j u hlen hx hj;have h2:=h.cells (g:=g) rfl _ _ h1;have pu:(⟨g,0,none⟩:Addr).add (i * sz+j)=⟨g,0+i * sz+j,none⟩:=by unfold Addr.add; split <;> simp_all
  rw[pu] at h2;exact h2
def ip(_:World)(_:Nat)(e:List Value)(x:Int):Prop:=e = [.int .i64 x]
theorem iU:dK ip:=λ_ _ _ _ _ h _=>h
theorem nv:dV ip:=λ_ _ _ _ _ h _=>h
theorem OF{α:Type}(f:α->Value)(l:List α):l.map f=l.flatMap λx=>[f x]:=by induction l <;> simp_all
theorem xX{W:World}{base:Nat}{e:TypeId}{size:Nat}{v:Value}{k:Nat}{xs:List Value}(h:W.ownsRow base e size v k xs):∃ A cap,v = .slice A k cap:=by
 rcases h.2 with ⟨rfl,rfl⟩ | ⟨g,cap,_,rfl,_⟩
 ·exact⟨none,0,rfl⟩
 ·exact⟨_,cap,rfl⟩
def bF{α:Type}(R:World->Nat->List Value->α->Prop)(sz:Nat)(e:TypeId)(base B:Nat)(w:World)(v:Value)(xs:List α):Prop:=
 ∃ rows:List (List Value),rows.length=xs.length/\w.ownsRow base e sz v xs.length rows.flatten/\∀ (i:Nat) (r:List Value) (x:α),rows[i]?=some r->xs[i]?=some x->r.length=sz/\R w B r x
theorem Dy{sz:Nat} : ∀ (rows:List (List Value)) (i j:Nat) (r:List Value) (u:Value),(∀ q∈rows,q.length=sz)->rows[i]?=some r->r[j]?=some u->rows.flatten[i * sz+j]?=some u:=by
 intro rows
 induction rows with
 | nil=>intro i j r u _ h; simp at h
 | cons q rows ih=>
  intro i j r u hq h hj;have hl:q.length=sz:=hq q (by simp);rw[List.flatten_cons]
  cases i with
  | zero=>
   simp at h; subst h;rw[List.getElem?_append_left (by have:=(cQ.1 hj).1; omega)];simpa using hj
  | succ i=>
   rw[oQ (by rw[hl,Nat.succ_mul]; omega),hl,show (i+1) * sz+j - sz=i * sz+j by rw[Nat.succ_mul]; omega];exact ih i j r u (λq hq'=>hq q (by simp[hq'])) (by simpa using h) hj
theorem Gw{sz:Nat} : ∀ (rows:List (List Value)),(∀ q∈rows,q.length=sz)->rows.flatten.length=rows.length * sz:=by
 intro rows
 induction rows with
 | nil=>intro _; simp
 | cons q rs ih=>
  intro h;rw[List.flatten_cons,List.length_append,ih (λx hx=>h x (by simp[hx])),h q (by simp),List.length_cons,Nat.succ_mul]; omega
theorem bF.rows_len{α:Type}{R:World->Nat->List Value->α->Prop}{sz B:Nat}{w:World}{xs:List α}{rows:List (List Value)}(hl:rows.length=xs.length)(h:∀ (i:Nat) (r:List Value) (x:α),rows[i]?=some r->xs[i]?=some x->r.length=sz/\R w B r x):∀ q∈rows,q.length=sz:=λq hq=>by
 obtain⟨i,hi,rfl⟩:=nQ.1 hq;exact (h i _ _ (aQ hi) (aQ (by omega))).1
theorem bF.slr{α:Type}{R:World->Nat->List Value->α->Prop}{sz:Nat}{e:TypeId}{base B:Nat}{w:World}{v:Value}{xs:List α}(h:bF R sz e base B w v xs)(hm:dV R)(hB:B<=w.heap.size)(hl:xs.length<=140737488355328):SlR R sz w w.heap.size v xs:=by
 obtain⟨rows,h1,h2,h3⟩:=h;rcases h2.2 with ⟨rfl,h0⟩ | ⟨g,cap,cur,rfl,hb,hg,pr,_⟩
 ·have:xs = []:=rQ h0
  subst this;exact⟨none,0,rfl,by simp,by simp,λi x hx=>by simp at hx⟩
 ·refine⟨_,cap,rfl,pr,hl,λi x hx=>?_⟩;have hi:=(cQ.1 hx).1;have hr:=aQ (show i<rows.length by omega);obtain⟨h4,h5⟩:=h3 i _ x hr hx;refine⟨g,0,rows[i],rfl,(eQ.1 hg).1,h4,λj u hj=>?_,hm _ _ _ _ _ h5 hB⟩;have h6:=h2.cells (g:=g) rfl _ _ (Dy rows i j _ u (bF.rows_len h1 h3) hr hj);have pu:(⟨g,0,none⟩:Addr).add (i * sz+j)=⟨g,0+i * sz+j,none⟩:=by unfold Addr.add; split <;> simp_all
  rw[pu] at h6;exact h6
theorem bF.keep{α:Type}{R:World->Nat->List Value->α->Prop}{sz:Nat}{e:TypeId}{base B:Nat}{w w':World}{v:Value}{xs:List α}(h:bF R sz e base B w v xs)(hk:dK R)(hb:Below w.heap.size w w')(hB:B<=w.heap.size):bF R sz e base B w' v xs:=by
 obtain⟨rows,h1,h2,h3⟩:=h;refine⟨rows,h1,fL h2 (λg hg=>hb.block g (h2.lt g hg).2),λi r x hr hx=>?_⟩;obtain⟨h4,h5⟩:=h3 i r x hr hx;exact⟨h4,hk _ _ _ _ _ h5 (hb.mono hB)⟩
theorem bF.empty{α:Type}{R:World->Nat->List Value->α->Prop}{sz:Nat}{e:TypeId}{base B:Nat}(w:World)(hb:base<=w.heap.size):bF (α:=α) R sz e base B (w.alloc (.cells #[] e)) (.slice (some ⟨w.heap.size,0,none⟩) 0 0) []:=
 ⟨[],rfl,⟨by simp,.inr ⟨w.heap.size,0,#[],rfl,hb,heap_alloc_new _ _,bQ _,by simp[maxLen],by simp,by simp⟩⟩,λi r x hr=>by simp at hr⟩
theorem bF.nil{α:Type}{R:World->Nat->List Value->α->Prop}{sz:Nat}{e:TypeId}{base B:Nat}(w:World):bF (α:=α) R sz e base B w (.slice none 0 0) []:=⟨[],rfl,⟨by simp,.inl ⟨rfl,rfl⟩⟩,λi r x hr=>by simp at hr⟩
theorem Yy{α:Type}{R:World->Nat->List Value->α->Prop}{sz:Nat}{w:World}{B:Nat}{A:Option Addr}{n c:Nat}{ys:List α}(h:SlR R sz w B (.slice A n c) ys)(an:0<sz) :
 ∃ rows:List (List Value),rows.length=ys.length/\(∀ (i:Nat) (r:List Value) (x:α),rows[i]?=some r->ys[i]?=some x->r.length=sz/\R w B r x)/\(ys≠[]->∃ b o,A=some ⟨b,o,none⟩/\b<B/\∀ j u,rows.flatten[j]?=some u->w.cell? ((⟨b,o,none⟩:Addr).add j)=some u):=by
 obtain⟨A',c',hv,hc,hl,he⟩:=h
 cases hv
 have ax:∀ k,k<=ys.length->∃ rows:List (List Value),rows.length=k/\(∀ (i:Nat) (r:List Value) (x:α),rows[i]?=some r->ys[i]?=some x->r.length=sz/\R w B r x/\∃ b o,A=some ⟨b,o,none⟩/\b<B/\cN w b (o+i * sz) r):=by
  intro k
  induction k with
  | zero=>exact λ_=>⟨[],rfl,λi r x hr=>by simp at hr⟩
  | succ k ih=>
   intro hk;obtain⟨rows,h1,h2⟩:=ih (by omega);obtain⟨b,o,e,hA,hb,bU,hce,hr⟩:=he k _ (aQ (by omega:k<ys.length));refine⟨rows ++ [e],by simp[h1],λi r x hr' hx=>?_⟩;rcases Nat.lt_or_ge i rows.length with ab | oW
   ·rw[List.getElem?_append_left ab] at hr'; exact h2 i r x hr' hx
   ·rw[oQ oW] at hr';have h0:i - rows.length=0:=by have:=(cQ.1 hr').1; simp at this; omega
    rw[h0] at hr';simp at hr';subst hr';obtain rfl:i=k:=by omega
    rw[aQ (by omega)] at hx;simp only[Option.some.injEq] at hx;subst hx;exact⟨bU,hr,b,o,hA,hb,hce⟩
 obtain⟨rows,h1,h2⟩:=ax ys.length (bQ _);refine⟨rows,h1,λi r x hr hx=>⟨(h2 i r x hr hx).1,(h2 i r x hr hx).2.1⟩,λhne=>?_⟩;have h0:0<ys.length:=Nat.pos_of_ne_zero (λe=>hne (rQ e));obtain⟨_,_,b,o,hA,hb,_⟩:=h2 0 _ _ (aQ (by omega)) (aQ h0);refine⟨b,o,hA,hb,λj u hj=>?_⟩;have hlen:∀ q∈rows,q.length=sz:=λq hq=>by
  obtain⟨i,hi,rfl⟩:=nQ.1 hq;exact (h2 i _ _ (aQ hi) (aQ (by omega))).1
 have xb:=Gw rows hlen;have od:=(cQ.1 hj).1;have hi:j / sz<rows.length:=by rw[xb] at od; exact Nat.div_lt_of_lt_mul (by rw[Nat.mul_comm]; exact od)
 obtain⟨h5,_,b',o',hA',_,hce⟩:=h2 (j / sz) _ _ (aQ hi) (aQ (by omega));rw[hA] at hA';simp only[Option.some.injEq,Addr.mk.injEq,and_true] at hA';obtain⟨rfl,rfl⟩:=hA';have FZ:j % sz<rows[j / sz].length:=by rw[h5]; exact Nat.mod_lt _ an
 have h7:=Dy rows (j / sz) (j % sz) _ _ hlen (aQ hi) (aQ FZ);rw[Nat.div_add_mod' j sz,hj] at h7;simp only[Option.some.injEq] at h7;have h8:=hce (j % sz) _ (aQ FZ);rw[<-h7] at h8;have pu:(⟨b,o,none⟩:Addr).add j=⟨b,o+j,none⟩:=by unfold Addr.add; split <;> simp_all
 rw[pu,<-h8];congr 2
 have:=Nat.div_add_mod' j sz
 omega
section
variable {P:Program}
theorem LJ{w:World}(base:Nat)(t ty e:TypeId)(i:TypeInfo)(size:Nat)(ht:P.underlying t=some (.slice e))(hi:P.info? e=some i)(v:Value)(n c:Nat)(xs:List Value)(hown:w.ownsRow base e size v n xs) :
 (Builtin.append_ #[t,t] ty #[v,.slice none 0 c]).run P w = .ok v w:=by
 rcases hown.2 with ⟨rfl,rfl⟩ | ⟨g,cap,cur,rfl,_,_,pr,_⟩
 ·simp[Builtin.append_,run_underlying ht,sizeOf,typeInfo,hi,Builtin.lenOf,Builtin.firstCells]
 ·simp[Builtin.append_,run_underlying ht,sizeOf,typeInfo,hi,Builtin.lenOf,Builtin.firstCells,pr,storeCells]
theorem C6{α:Type}{R:World->Nat->List Value->α->Prop}{sz:Nat}(w:World){ops:Array Oper}{rest:List Oper}{o:Oper}{a:Act}{Q:Exit->Act->World->Prop}(jA:o.guard=none)(s x:Operand)(t:TypeId)
 (ho:o.op = .call { callee:=.builtin .append,args:=#[s,x],argTypes:=#[t,t] })
 (base B:Nat) (e:TypeId) (i:TypeInfo) (z:Value) (bytes:Nat) (ht:P.underlying t=some (.slice e)) (hi:P.info? e=some i) (hz:i.zero=some z) (mx:i.size=sz) (jh:i.bytes=bytes) (tj:z.cells.size=sz) (an:0<sz)
 (v:Value) (xs:List α) (hs:a.eval s=v) (hown:bF R sz e base B w v xs) (A:Option Addr) (c Bs:Nat) (ys:List α) (hx:a.eval x = .slice A ys.length c) (eM:SlR R sz w Bs (.slice A ys.length c) ys)
 (wW:∀ r y,R w Bs r y->∀ u∈r,u.oneCell'=true) (li:xs.length+ys.length<=maxLen) (nU:(xs.length+ys.length) * bytes<=140737488355328) (eS:base<=w.heap.size) (oT:Bs<=B) (SE:B<=base) (hk:dK R) (hm:dV R)
 (h:∀ v' w',bF R sz e base B w' v' (xs++ys)->Below base w w'->w.grownBy w' v.ownBlock->wpList P ops Q rest (a.put o.dst v') w'):wpList P ops Q (o::rest) a w:=by
 have sV:∀ (w':World) (v':Value) (rows rows':List (List Value)),Below base w w'->rows.length=xs.length->(∀ (i:Nat) (r:List Value) (x:α),rows[i]?=some r->xs[i]?=some x->r.length=sz/\R w B r x)->rows'.length=ys.length->
  (∀ (i:Nat) (r:List Value) (x:α),rows'[i]?=some r->ys[i]?=some x->r.length=sz/\R w Bs r x)->w'.ownsRow base e sz v' (xs.length+ys.length) (rows.flatten++rows'.flatten)->bF R sz e base B w' v' (xs++ys):=by
  intro w' v' rows rows' hb h1 h2 h3 h4 h5;refine⟨rows++rows',by simp[h1,h3],?_,λj r y hr hy=>?_⟩
  ·rw[List.length_append,List.flatten_append]; exact h5
  ·rcases Nat.lt_or_ge j rows.length with ab | oW
   ·rw[List.getElem?_append_left ab] at hr;rw[List.getElem?_append_left (by omega)] at hy;obtain⟨h6,h7⟩:=h2 j r y hr hy;exact⟨h6,hk _ _ _ _ _ h7 (hb.mono SE)⟩
   ·rw[oQ oW] at hr;rw[oQ (by omega),<-h1] at hy;obtain⟨h6,h7⟩:=h4 _ r y hr hy;exact⟨h6,hk _ _ _ _ _ (hm _ _ _ _ _ h7 oT) (hb.mono SE)⟩
 obtain⟨rows,h1,h2,h3⟩:=hown;obtain⟨rows',h4,h5,h6⟩:=Yy eM an;by_cases hy:ys = []
 ·subst hy;have mC:rows' = []:=rQ (by simpa using h4);subst mC
  cases A with
  | none=>
   have dH:=LJ (P:=P) base t o.type e i sz ht hi v xs.length c rows.flatten h2;refine wpList_plain jA λK hK=>?_;unfold Oper.wp;have hx':a.eval x = .slice none 0 c:=hx;simp[execOp,ho,resolve,invoke,builtin,hs,hx',dH,Result.andThen];refine hK _ _ (h v w (sV w v rows [] (vQ _ _) h1 h3 rfl (λj r y hr=>by simp at hr) (by simpa using h2)) (vQ _ _) ⟨rfl,rfl,rfl,bQ _,λ_ _ _=>rfl⟩)
  | some ad=>
   refine wpList_append_own_at w jA s x t ho base e i z sz bytes ht hi hz mx jh tj an v xs.length rows.flatten hs h2 ad 0 c [] hx (by simp) (λj u hj=>by simp at hj) (λu hu=>by cases hu) (by simpa using li) (by simpa using nU) eS ?_;intro v' w' ho' hg _ _;have hb:Below base w w':=(vQ _ _).grown hg eS (λk hk=>(h2.lt k hk).1);exact h v' w' (sV w' v' rows [] hb h1 h3 rfl (λj r y hr=>by simp at hr) (by simpa using ho')) hb hg
 ·obtain⟨b,o',rfl,bg,hcell⟩:=h6 hy;have hl:=bF.rows_len h4 h5;refine wpList_append_own_at w jA s x t ho base e i z sz bytes ht hi hz mx jh tj an v xs.length rows.flatten hs h2 ⟨b,o',none⟩ ys.length c rows'.flatten hx (by rw[Gw rows' hl,h4]) hcell (λu hu=>?_) li nU eS ?_
  ·obtain⟨r,hr,Kt⟩:=List.mem_flatten.1 hu;obtain⟨j,hj,rfl⟩:=nQ.1 hr;exact wW _ _ (h5 j _ _ (aQ hj) (aQ (by omega))).2 u Kt
  ·intro v' w' ho' hg _ _;have hb:Below base w w':=(vQ _ _).grown hg eS (λk hk=>(h2.lt k hk).1);exact h v' w' (sV w' v' rows rows' hb h1 h3 h4 h5 ho') hb hg
end
end
namespace Np
def qC(c:UInt8):Bool:=97<=c&&c<=122
def nI(c:UInt8):Bool:=48<=c&&c<=57
def mG(c:UInt8):Bool:=qC c||nI c||c == 45
def cF(l:List UInt8):Bool:=decide (1<=l.length)&&decide (l.length<=12)&&!(l.head? == some 45)&&!(l.getLast? == some 45)&&l.all mG
def Ij(l:List UInt8)(c:UInt8)(r:Int):Prop:=(r = -1/\c∉l)\/∃ a b,l=a++c::b/\c∉b/\r=a.length
def be:List UInt8->List (List UInt8)
 | []=>[[]]
 | c::r=>if c=46 then []::be r else match be r with
   | x::xs=>(c::x)::xs
   | []=>[[c]]
theorem qo(l:List UInt8):be l≠[]:=by
 cases l with
 | nil=>simp[be]
 | cons c r=>
  unfold be;split
  ·simp
  ·split <;> simp
theorem xV{l:List UInt8}(h:46∉l):be l = [l]:=by
 induction l with
 | nil=>rfl
 | cons c r ih=>
  have h1:c≠46:=λe=>h (by simp[e]);have h2:46∉r:=λe=>h (by simp[e]);unfold be;rw[Qc h1,ih h2]
theorem zR(a b:List UInt8):be (a++46::b)=be a++be b:=by
 induction a with
 | nil=>simp[be]
 | cons c r ih=>
  rw[List.cons_append];by_cases h:c=46
  ·rw[be,Qb h,be,Qb h,ih]; rfl
  ·rw[be,Qc h,be,Qc h,ih];have hne:=qo r
   cases hr:be r with
   | nil=>exact absurd hr hne
   | cons x xs=>rfl
def bj(l:List UInt8):List (List UInt8):=if l = [46] then [] else (be l).reverse
def fO:List (List UInt8)->Nat->Bool->Bool
 | [],_,_=>true
 | x::xs,n,wild=>if wild||decide (8<n+1) then false else if x = [42] then fO xs (n+1) true else if cF x then fO xs (n+1) false else false
def aG(l:List UInt8):Bool:=if l = [46] then true else if 60<l.length then false else fO (be l).reverse 0 false
theorem Gi{l y:List UInt8}(h:y∈be l):y.length<=l.length:=by
 induction l generalizing y with
 | nil=>simp[be] at h; subst h; simp
 | cons c r ih=>
  unfold be at h;split at h
  ·rcases List.mem_cons.1 h with e | e
   ·subst e; simp
   ·have:=ih e; simp; omega
  ·split at h
   ·rename_i x xs hx;rcases List.mem_cons.1 h with e | e
    ·subst e; have:=ih (y:=x) (by rw[hx]; simp); simp; omega
    ·have:=ih (y:=y) (by rw[hx]; simp[e]); simp; omega
   ·simp at h; subst h; simp
theorem DS{l y:List UInt8}(h:y∈bj l):y.length<=l.length:=by
 unfold bj at h;split at h
 ·cases h
 ·exact Gi (List.mem_reverse.1 h)
def oD(c:UInt8):Bool:=qC c||nI c||c == 32
def ke(l:List UInt8):Bool:=decide (1<=l.length)&&decide (l.length<=40)&&!(l.head? == some 32)&&!(l.getLast? == some 32)&&l.all oD
def fp(l:List UInt8):Bool:=l.head? == some 42
structure Rule where
 text:Int
 leastN:Int
 mostN:Int
 leastM:Int
 mostM:Int
 even:Bool
 single:Bool
 wild:Bool
structure Datum where
 text:List UInt8
 n:Int
 m:Int
deriving DecidableEq
def vf(k:Int)(l:List UInt8):Bool:=if k=1 then aG l&&!fp l else if k=2 then aG l else if k=3 then ke l else l == []
def jX(r:Rule)(d:Datum):Bool:=
 (decide (r.leastN<=d.n)&&decide (d.n<=r.mostN))&&(decide (r.leastM<=d.m)&&decide (d.m<=r.mostM))&&!(r.even&&(d.n.tmod 2 != 0))&&vf r.text d.text
def cP(a b:List UInt8):Int:=if Go.Op.bytesLess a b then -1 else if a=b then 0 else 1
def cX(a b:Int):Int:=if a<b then -1 else if b<a then 1 else 0
def qG(a b:Datum):Int:=if cP a.text b.text≠0 then cP a.text b.text else if cX a.n b.n≠0 then cX a.n b.n else cX a.m b.m
def rules:List Rule:=[⟨0,0,0,0,0,false,false,false⟩,⟨0,1,1000000,0,0,false,false,true⟩,⟨1,0,0,0,0,false,false,false⟩,⟨1,0,0,0,0,false,true,false⟩,⟨0,0,65535,0,100000,false,true,false⟩,
 ⟨3,0,0,0,0,false,false,true⟩,⟨0,1,1000000,1,3,false,false,false⟩,⟨0,1,1000000,1,3,false,false,false⟩,⟨2,2,510,0,0,true,false,true⟩]
def cm(k:Int):Rule:=rules.getD k.toNat ⟨0,0,0,0,0,false,false,false⟩
structure DSet where
 name:List UInt8
 type:Int
 life:Int
 data:List Datum
deriving DecidableEq
def jI(r:Rule):Option Datum->List Datum->Bool
 | _,[]=>true
 | p,d::ds=>jX r d&&(match p with | none=>true | some q=>decide (qG q d<0))&&jI r (some d) ds
def ee(s:DSet):Bool:=
 aG s.name&&(decide (1<=s.type)&&decide (s.type<=8))&&(decide (0<=s.life)&&decide (s.life<=100000))&&(decide (1<=s.data.length)&&decide (s.data.length<=8)) &&
 !((cm s.type).single&&decide (s.data.length≠1))&&!(fp s.name&&!(cm s.type).wild)&&jI (cm s.type) none s.data
theorem Mk{r:Rule}{p:Option Datum}{ds:List Datum}{j:Nat}{d:Datum}(hd:ds[j]?=some d)(h:jX r d=false):jI r p (ds.drop j)=false:=by
 rw[sQ (cQ.1 hd).1,(cQ.1 hd).2];simp[jI,h]
theorem LU{r:Rule}{ds:List Datum}{d:Datum}(hd:ds[0]?=some d)(h:jX r d=true):jI r (ds.take 0).getLast? (ds.drop 0)=jI r (ds.take 1).getLast? (ds.drop 1):=by
 cases ds with
 | nil=>simp at hd
 | cons x r=>simp at hd; subst hd; simp[jI,h]
theorem L6{r:Rule}{ds:List Datum}{j:Nat}{q d:Datum}(hq:ds[j]?=some q)(hd:ds[j+1]?=some d)(h:jX r d=true) :
 jI r (ds.take (j+1)).getLast? (ds.drop (j+1))=if qG q d<0 then jI r (ds.take (j+1+1)).getLast? (ds.drop (j+1+1)) else false:=by
 have h1:=(cQ.1 hq);have h2:=(cQ.1 hd);rw[sQ h2.1,h2.2,fQ h1.1,h1.2,fQ h2.1,h2.2];simp only[List.getLast?_append,List.getLast?_singleton,Option.some_or,jI,h];split <;> rename_i hc <;> simp[hc]
end Np
section
open Go.RowKit
theorem Mj(c:UInt8):Np.mG c=decide ((97<=(c.toNat:Int)/\(c.toNat:Int)<=122)\/(48<=(c.toNat:Int)/\(c.toNat:Int)<=57)\/(c.toNat:Int)=45):=by
 have h:=oK c 45 (by decide);unfold Np.mG Np.qC Np.nI;rw[show (45:UInt8)=UInt8.ofNat 45 from rfl,h,Bool.eq_iff_iff];simp[UInt8.le_iff_toNat_le];omega
theorem XX(s:ByteArray)(h:(s.size:Int)<1):Np.cF s.data.toList=false:=by
 have:¬ 1<=s.size:=by omega
 simp[Np.cF,this]
theorem XW(s:ByteArray)(h:12<(s.size:Int)):Np.cF s.data.toList=false:=by
 have:¬ s.size<=12:=by omega
 simp[Np.cF,this]
theorem XV(s:ByteArray)(h0:0<s.size)(h:(s[0].toNat:Int)=45):Np.cF s.data.toList=false:=by
 have e:=oK s[0] 45 (by decide);rw[uQ (by simpa using h)] at e;have e2:s[0]=(45:UInt8):=by simpa using e
 simp[Np.cF,Ai s h0,e2]
theorem XU(s:ByteArray)(h0:s.size - 1<s.size)(h:(s[s.size - 1].toNat:Int)=45):Np.cF s.data.toList=false:=by
 have e:=oK s[s.size - 1] 45 (by decide);rw[uQ (by simpa using h)] at e;have e2:s[s.size - 1]=(45:UInt8):=by simpa using e
 simp[Np.cF,DI s h0,e2]
theorem XT(s:ByteArray)(k:Nat)(hk:k<s.size)(h:Np.mG s[k]=false):Np.cF s.data.toList=false:=by
 have:s.data.toList.all Np.mG=false:=by
  rw[List.all_eq_false];exact⟨s[k],by rw[<-cQ.1 (yl s k hk) |>.2]; exact List.getElem_mem _,by simp[h]⟩
 simp[Np.cF,this]
theorem XS(s:ByteArray)(h1:1<=s.size)(h2:s.size<=12)(h3:¬ (s[0].toNat:Int)=45)(h4:¬ (s[s.size - 1].toNat:Int)=45)(h5:s.data.toList.all Np.mG=true):Np.cF s.data.toList=true:=by
 have e:=oK s[0] 45 (by decide);have e':=oK s[s.size - 1] 45 (by decide);rw[tQ (by simpa using h3)] at e;rw[tQ (by simpa using h4)] at e';have e2:¬ s[0]=(45:UInt8):=by simpa using e
 have e3:¬ s[s.size - 1]=(45:UInt8):=by simpa using e'
 simp[Np.cF,DI s (by omega),Ai s (by omega),e2,e3,h5,h1,h2]
theorem Ht(s:ByteArray)(k:Nat)(h:k<s.size)(p:UInt8->Bool)(h1:(s.data.toList.take k).all p=true)(h2:p s[k]=true):(s.data.toList.take (k+1)).all p=true:=by
 rw[GZ s k h,List.all_append,h1]; simp[h2]
theorem VB(s:ByteArray)(hs:s.size<=140737488355328)(w:World) :
 Calls prog 158 #[.string s] w λe w'=>e = .returned (.bool (Np.cF s.data.toList))/\w=w':=by
 go_enter func158,ntmps158;go_wp2
 ·go_ret;exact⟨aj (XX s ‹_›).symm,rfl⟩
 ·go_ret;exact⟨aj (XW s ‹_›).symm,rfl⟩
 ·go_ret;exact⟨aj (XV s ‹_› ‹_›).symm,rfl⟩
 ·have h:((s[s.size - 1].toNat:Int) == 45)=true:=by assumption
  go_ret;exact⟨aj (XU s (by omega) (by simpa using h)).symm,rfl⟩
 ·have h1:1<=(s.size:Int):=by assumption
  have h2:(s.size:Int)<=12:=by assumption
  have h3:¬ (s[0].toNat:Int)=45:=by assumption
  have h4:((s[s.size - 1].toNat:Int) == 45)=false:=by assumption
  have H4:=jq h4;clear h4;have H3:=jq h3;go_loop [28] (λi=>∃ k:Nat,k<=s.size/\i = .int .i64 k/\(s.data.toList.take k).all Np.mG=true) (λi=>s.size - (intOf i).toNat)
  case atStart=>exact⟨0,jQ _,rfl,rfl⟩
  case round=>
   obtain⟨k,hk,rfl,ha⟩:=hrel;have HA:=jq ha;clear ha;by_cases ab:k<s.size
   ·have hb:=yy s[k];go_wp2
    all_goals first
     | (have hne:((s[k].toNat:Int) != 45)=true:=by assumption
        have Cx:=bne_iff_ne.1 hne;go_ret;exact⟨aj (XT s k ab (by rw[Mj]; exact tQ (by omega))).symm,rfl⟩)
     | (have hl:Np.mG s[k]=true:=by
         rw[Mj];refine uQ ?_
         first
          | omega
          | (have hne:((s[k].toNat:Int) != 45)=false:=by assumption
             have Cx:(s[k].toNat:Int)=45:=by simpa using hne
             omega)
        go_round
        case rel=>exact⟨k+1,by omega,by go_num,Ht s k ab _ HA.out hl⟩
        case measure=>simp[intOf] <;> omega)
   ·go_wp2;go_ret;exact⟨aj (XS s (by omega) (by omega) H3.out (by simpa using H4.out) (by have:=HA.out; rwa [DK s k (by omega)] at this)).symm,rfl⟩
theorem abX(c:Int)(h0:0<=c)(h1:c<=255)(x:UInt8):x=UInt8.ofNat c.toNat↔(x.toNat:Int)=c:=by
 have h:=oK x c.toNat (by omega);rw[Bool.eq_iff_iff] at h;simp only[beq_iff_eq,Qa] at h;rw[h]; omega
theorem Vv(s:ByteArray)(c:UInt8)(h:c∉s.data.toList.drop 0):Np.Ij s.data.toList c (-1):=.inl ⟨rfl,by simpa using h⟩
theorem Vu(s:ByteArray)(c:UInt8)(k:Nat)(hk:k<s.size)(h:c∉s.data.toList.drop (k+1))(hc:s[k]=c):Np.Ij s.data.toList c (k:Int):=by
 refine .inr ⟨s.data.toList.take k,s.data.toList.drop (k+1),?_,h,?_⟩
 ·subst hc;rw[show s[k]=s.data.toList[k]'(by rw[bn]; exact hk) from rfl,<-sQ,List.take_append_drop]
 ·simp; have:=bn s; simp at this; omega
theorem X9(s:ByteArray)(c:UInt8)(k:Nat)(hk:k<s.size)(h:c∉s.data.toList.drop (k+1))(hc:¬ s[k]=c):c∉s.data.toList.drop k:=by
 rw[sQ (by rw[bn]; exact hk)];intro hm;rcases List.mem_cons.1 hm with e | e
 ·exact hc e.symm
 ·exact h e
def Ok(s:ByteArray)(c:UInt8)(w:World)(e:Ending)(w':World):Prop:=∃ r:Int,Np.Ij s.data.toList c r/\e = .returned (.int .i64 r)/\w=w'
theorem Tm(s:ByteArray)(hs:s.size<=140737488355328)(c:Int)(h0:0<=c)(h1:c<=255)(w:World) :
 Calls prog 220 #[.string s,.int .u8 c] w (Ok s (UInt8.ofNat c.toNat) w):=by
 go_enter func220,ntmps220;go_wp2;go_loop [5] (λi=>∃ k:Int,-1<=k/\k<s.size/\i = .int .i64 k/\Hid (UInt8.ofNat c.toNat∉s.data.toList.drop (k+1).toNat)) (λi=>(intOf i+1).toNat)
 case atStart=>exact⟨_,by omega,by omega,rfl,jq (by rw[List.drop_eq_nil_of_le (by rw[bn]; omega)]; simp)⟩
 case round=>
  obtain⟨k,bW,bV,rfl,H⟩:=hrel;by_cases ab:0<=k
  ·obtain⟨j,rfl⟩:=Int.eq_ofNat_of_zero_le ab;have hj:j<s.size:=by omega
   have hb:=yy s[j];have hd:=abX c h0 h1 s[j];have HD:=jq hd;clear hd;go_wp2
   all_goals first
    | (have he:((s[j].toNat:Int) == c)=true:=by assumption
       go_ret;exact⟨j,Vu s _ j hj (by simpa using H.out) (HD.out.2 (by simpa using he)),rfl,rfl⟩)
    | (have he:((s[j].toNat:Int) == c)=false:=by assumption
       go_round
       case rel=>exact⟨(j:Int) - 1,by omega,by omega,rfl,jq (by have:=X9 s _ j hj (by simpa using H.out) (λe=>by have:=HD.out.1 e; simp[this] at he); simpa using this)⟩
       case measure=>simp[intOf] <;> omega)
  ·obtain rfl:k = -1:=by omega
   go_wp2;go_ret;exact⟨-1,Vv s _ (by simpa using H.out),rfl,rfl⟩
theorem Gb(s:ByteArray)(hs:s.size<=140737488355328)(c:Int)(h0:0<=c)(h1:c<=255)(w:World) :
 Calls prog 160 #[.string s,.int .u8 c] w (Ok s (UInt8.ofNat c.toNat) w):=by
 go_enter func160,ntmps160;go_wp2_with (go_at_call 220; refine (Tm _ hs _ h0 h1 _).mono ?_; rintro e w' ⟨r,hr,rfl,rfl⟩);go_ret;exact⟨r,hr,rfl,rfl⟩
end
section
open Go.RowKit Go.Shelf
attribute [local go_sem] Oper.semAt_some
abbrev aH(l:List UInt8):Value:=.string ⟨l.toArray⟩
def Ie:Value->Nat
 | .string s=>s.size
 | _=>0
def Id(t:ByteArray)(J:List (List UInt8)->(Nat->Prop)->World->Prop)(S:Nat->Prop)(W:World)(v:Value)(wr:World):Prop:=
 ∃ (pre:List (List UInt8)) (r:ByteArray) (S1:Nat->Prop),v = .string r/\r.size<=140737488355328/\Np.bj t.data.toList=pre++(Np.be r.data.toList).reverse/\
   J pre S1 wr/\(∀ k,S1 k->k<wr.heap.size)/\W.heap.size<=wr.heap.size/\(∀ k,S1 k->S k\/W.heap.size<=k)
theorem Da(t:ByteArray)(ht:t.size<=140737488355328)(n₀:Nat)(w:World) :
 vK prog 98 (λy=>#[.string t,y]) (λx:List UInt8=>#[aH x]) (Np.bj t.data.toList) n₀ w:=by
 intro l J Jx S W hW hJ Qi hY hS hS' h0;refine callsIn_of_wp func98 rfl trivial ?_ rfl;simp only[ntmps98,List.size_toArray,List.length_cons,List.length_nil,Nat.reduceAdd,Nat.reduceSub,Array.replicate_succ,Array.replicate_zero,List.push_toArray,List.append_toArray,List.nil_append,List.cons_append];gi_wp2_with fail
 ·have he:(t.toList == [46])=true:=by assumption
  have lX:t.data.toList = [46]:=by rw[<-dQ]; simpa using he
  have hb:Np.bj t.data.toList = []:=by simp[Np.bj,lX]
  refine bodyPost_ret (results_none rfl _ _ _) rfl ?_;exact⟨⟨_,rfl⟩,.inl ⟨S,by rw[hb]; exact h0,λk e=>.inl e⟩⟩
 ·have he:(t.toList == [46])=false:=by assumption
  have hne:¬ t.data.toList = [46]:=by rw[<-dQ]; simpa using he
  have hb:Np.bj t.data.toList=(Np.be t.data.toList).reverse:=by simp[Np.bj,hne]
  have HB:=jq hb;clear hb;gi_loopw [4] (λv wr=>Id t J S W v wr) (λv _=>Ie v)
  case atStart=>exact⟨[],t,S,rfl,ht,by simpa using HB.out,h0,hS',bQ _,λ_ e=>.inl e⟩
  case round=>
   obtain⟨pre,r,S1,rfl,hr,jf,hj,ab,an,bM⟩:=hrel;have HP:=jq jf;clear jf;gi_wp2_with fail;refine⟨trivial,rfl,?_⟩;refine (callsIn_wide.2 (Gb _ hr _ (by decide) (by decide) _)).mono ?_;rintro e w' ⟨q,hq,rfl,rfl⟩;rcases hq with ⟨rfl,iG⟩ | ⟨a,b,iw,uP,rfl⟩
   ·have aZ:Np.be r.data.toList = [r.data.toList]:=Np.xV iG;have hx:pre ++ [r.data.toList] <+: Np.bj t.data.toList:=by rw[HP.out,aZ]; exact List.prefix_refl _
    obtain⟨fn,tmps,assign,body,hy,hR⟩:=hY pre r.data.toList S1 wr hx hj ab an;have pS:Sem.run prog (Instr.yield l #[.string r]) wr = .ok (.round l fn tmps assign body) wr:=hy;clear hy;have HX:=jq hx;clear hx;have HS:=jq aZ;clear aZ iG;gi_wp2_with fail;refine⟨rfl,hR.mono ?_⟩;rintro e W3 ⟨S3,bA,qm,nX,(⟨rfl,wP⟩ | ⟨rfl,wO⟩)⟩
    all_goals
     gi_wp2_with fail;refine bodyPost_ret (results_none rfl _ _ _) rfl ?_
    ·refine⟨⟨_,rfl⟩,.inl ⟨S3,?_,λk e=>?_⟩⟩
     ·rw[HP.out,HS.out]; exact wP
     ·rcases qm k e with e | e
      ·exact bM k e
      ·right; omega
    ·refine⟨⟨_,rfl⟩,.inr ⟨_,S3,HX.out,wO,λk e=>?_⟩⟩;rcases qm k e with e | e
     ·exact bM k e
     ·right; omega
   ·have lk:a.length+1+b.length=r.size:=by rw[<-bn,iw]; simp; omega
    have aZ:Np.be r.data.toList=Np.be a ++ [b]:=by rw[iw]; exact (Np.zR a b).trans (by rw[Np.xV uP])
    have hx:pre ++ [b] <+: Np.bj t.data.toList:=by rw[HP.out,aZ]; simp
    have mD:(r.extract (a.length+1) r.size).data.toList=b:=by rw[DR,iw]; simp
    have rF:(r.extract 0 a.length).data.toList=a:=by rw[D9,iw]; simp
    have B0:(r.extract 0 a.length).size=a.length:=by rw[<-bn,rF]
    obtain⟨fn,tmps,assign,body,hy,hR⟩:=hY pre b S1 wr hx hj ab an;have pS:Sem.run prog (Instr.yield l #[.string (r.extract (a.length+1) r.size)]) wr = .ok (.round l fn tmps assign body) wr:=by
     have:aH b = .string (r.extract (a.length+1) r.size):=by show Value.string _=_; congr 1; exact iV (by rw[mD])
     simp only[this] at hy;exact hy
    clear hy;have HX:=jq hx;have HS:=jq aZ;have HA:=jq rF;have rq:=jq B0;clear hx aZ mD rF B0 iw uP;have iK:a.length<=140737488355328:=by omega
    have Qk:a.length+1<=r.size:=by omega
    have H2:=jq lk;clear lk;gi_wp2_with fail;refine⟨rfl,hR.mono ?_⟩;rintro e W3 ⟨S3,bA,qm,nX,(⟨rfl,wP⟩ | ⟨rfl,wO⟩)⟩
    ·have hrs:=bA.size;gi_wp2_with fail;go_roundw
     case rel=>
      refine⟨pre ++ [b],r.extract 0 a.length,S3,rfl,by rw[rq.out]; exact iK,?_,wP,nX,by omega,λk e=>?_⟩
      ·rw[HP.out,HS.out,HA.out]; simp
      ·rcases qm k e with e | e
       ·exact bM k e
       ·right; omega
     case measure=>show (r.extract 0 a.length).size<r.size; rw[rq.out]; omega
    ·gi_wp2_with fail;refine bodyPost_ret (results_none rfl _ _ _) rfl ?_;refine⟨⟨_,rfl⟩,.inr ⟨_,S3,HX.out,wO,λk e=>?_⟩⟩;rcases qm k e with e | e
     ·exact bM k e
     ·right; omega
end
end Go.Proofs.YtbfbobfbgabjiaaGreatDoor
