/- No condition. -/
import Derived.WalkSpells
import Derived.WalkLawsBesides
import Derived.BigGuardPart
import Derived.StillTailTactics
import Derived.Deep.Light
import Derived.Test.YtadhigmjilijcaaGreatDoorProg
import Derived.RangeFuncNested
import Derived.RangeFuncBound
import Derived.Shelf.RegionOpen
import Derived.OwnWalkIn
import Derived.LoopNIn
import Derived.LoopIn
import Derived.Shelf.Small.Strs
import Derived.Laws.EntriesVeiled
import Derived.Shelf.Strings.OnBuilder
import Derived.Shelf.Small.Bits
import Derived.Shelf.Strconv.Itoa3
import Derived.Shelf.Strings.LastIndex
import Derived.Shelf.Strings.Prefix
set_option linter.all false
set_option maxRecDepth 100000
set_option maxHeartbeats 8000000
namespace Go.Proofs.YtadhigmjilijcaaGreatDoor
open Go.Proofs.Tryz
section
open Go.RowKit
theorem jq{p:Prop}(h:p):Hid p:=Lib.hid h
theorem cl{B:Nat}{w w':World}(h:Below B w w'){b o:Nat}(hb:b<B):w'.cell? ⟨b,o,none⟩=w.cell? ⟨b,o,none⟩:=h.cell hb
theorem aQ.{u}{α:Type u}{l:List α}{i:Nat}(h:i<l.length):l[i]?=some l[i]:=List.getElem?_eq_getElem h
theorem bQ(n:Nat):n≤n:=Nat.le_refl n
theorem cQ.{u}{α:Type u}{i:Nat}{a:α}{l:List α}:l[i]?=some a↔∃ h:i<l.length,l[i]=a:=List.getElem?_eq_some_iff
theorem dQ(b:ByteArray):b.toList=b.data.toList:=ByteArray.toList_eq b
theorem eQ.{u}{α:Type u}{i:Nat}{b:α}{xs:Array α}:xs[i]?=some b↔∃ h:i<xs.size,xs[i]=b:=Array.getElem?_eq_some_iff
theorem fQ.{u}{α:Type u}{i:Nat}{l:List α}(h:i<l.length):l.take (i+1)=l.take i++[l[i]]:=List.take_succ_eq_append_getElem h
theorem gQ.{u}{α:Type u}{l:List α}{i:Nat}{a:α}(e:l[i]?=some a):a∈l:=List.mem_of_getElem? e
theorem Qh.{u}{α:Type u}{a:α}:¬a∈([]:List α):=List.not_mem_nil
theorem iQ{w w':World}{a:Addr}(h:w'.heap[a.block]?=w.heap[a.block]?):w'.cell? a=w.cell? a:=World.cell?_of_block h
theorem jQ(n:Nat):0≤n:=Nat.zero_le n
theorem kQ.{u}{α:Type u}{i:Nat}{l:List α}(h:l.length≤i):l.take i=l:=List.take_of_length_le h
theorem lqQ{n m k:Nat}:n<m→m≤k→n<k:=Nat.lt_of_lt_of_le
theorem mQ.{u}{α:Type u}(y:α){a:α}{l:List α}:a∈l→a∈y::l:=List.mem_cons_of_mem y
theorem nQ.{u}{α:Type u}{a:α}{l:List α}:a∈l↔∃ (i:Nat) (h:i<l.length),l[i]=a:=List.mem_iff_getElem
theorem oQ.{u}{α:Type u}{l₁ l₂:List α}{i:Nat}:l₁.length≤i→(l₁++l₂)[i]?=l₂[i-l₁.length]?:=List.getElem?_append_right
theorem pQ.{u}{α:Type u}{xs:Array α}{i:Nat}(h:i<xs.size):xs[i]?=some xs[i]:=Array.getElem?_eq_getElem h
theorem rQ.{u}{α:Type u}{l:List α}:l.length=0→l=[]:=List.eq_nil_of_length_eq_zero
theorem sQ.{u}{α:Type u}{i:Nat}{l:List α}(h:i<l.length):l.drop i=l[i]::l.drop (i+1):=List.drop_eq_getElem_cons h
theorem tQ{p:Prop}[Decidable p]:¬p→decide p=false:=decide_eq_false
theorem uQ{p:Prop}[Decidable p]:p→decide p=true:=decide_eq_true
theorem vQ(B:Nat)(w:World):Below B w w:=Below.refl B w
theorem wQ(w:World)(a:Addr)(u:Value)(k:Nat)(h:k≠a.block):(w.setCell a u).heap[k]?=w.heap[k]?:=Below.heap_setCell w a u k h
theorem xQ(w:World)(a b:Addr)(v:Value)(h:a≠b):(w.setCell a v).cell? b=w.cell? b:=World.cell?_setCell_other w a b v h
theorem yQ{n m k:Nat}:n≤m→m≤k→n≤k:=Nat.le_trans
theorem zQ{r k:Nat}{o:Obj}{w:World}(h:k≠r):(w.putObj r o).heap[k]?=w.heap[k]?:=World.putObj_heap_other h
theorem Qa{p:Prop}[Decidable p]:(decide p=true)=p:=decide_eq_true_eq
theorem QbQ.{u}{c:Prop}{h:Decidable c}(hc:c){α:Sort u}{t e:α}:ite c t e=t:=if_pos hc
theorem Qc.{u}{c:Prop}{h:Decidable c}(hn:¬c){α:Sort u}{t e:α}:ite c t e=e:=if_neg hn
theorem Qd.{u,v}{α:Sort u}{β:Sort v}{a b:α}(f:α->β)(h:a=b):f a=f b:=congrArg f h
theorem aaQ{B:Nat}{w w':World}(h:Below B w w'){b o:Nat}{v:Option Value}(e:w.cell? ⟨b,o,none⟩=v)(hb:b<B:=by omega):w'.cell? ⟨b,o,none⟩=v:=(h.cell hb).trans e
theorem aaZ{n m:Nat}{a b c:World}(h:Hid (Below n a b))(k:Below m b c)(e:n≤m:=by omega):Hid (Below n a c):=jq (h.out.trans (k.mono e))
theorem aaX.{u}{α:Sort u}(e:α):∃ r,r=e:=⟨_,rfl⟩
abbrev aCX(n:Nat)(w:World)(v:Value)(e:Ending)(w':World):Prop:=e = .returned v/\Below n w w'
abbrev aCY(w:World)(v:Value)(e:Ending)(w':World):Prop:=e = .returned v/\w=w'
abbrev aDQ(α:Type):=World->Nat->List Value->α->Prop
theorem aaK.{u}{α:Sort u}(e:α):∃ r,e=r:=⟨_,rfl⟩
theorem _root_.Go.RowKit.Below.abQ{n m:Nat}{a b:World}(h:Below m a b)(e:n≤m:=by omega):Below n a b:=h.mono e
theorem acY{p:Prop}[Decidable p](h:¬p:=by omega):decide p=false:=decide_eq_false h
theorem adQ{p:Prop}[Decidable p](h:p:=by omega):decide p=true:=decide_eq_true h
theorem adZ.{u}{α:Type u}{a b:α}(h:a=b:=by kernel_rfl):some a=some b:=congrArg some h
theorem blAl{w:World}{o:Obj}:Below w.heap.size w (w.alloc o):=(Below.refl _ _).alloc (Nat.le_refl _) _
theorem _root_.Go.RowKit.Below.blSe{B:Nat}{a w:World}(h:Below B a w){p:Addr}(u:Value)(hp:B≤p.block:=by dsimp only;omega):Below B a (w.setCell p u):=h.setCell hp u
theorem blW(w:World):Hid (∀ o,Below w.heap.size w (w.alloc o)):=jq fun o=>blAl
theorem kNN(k:Nat):(0:Int)≤(k:Int):=by omega
theorem cRow5(w:World)(b:Nat)(v0 v1 v2 v3 v4:Value)(h:w.cell? ⟨b,0,none⟩=some v0∧w.cell? ⟨b,1,none⟩=some v1∧w.cell? ⟨b,2,none⟩=some v2∧w.cell? ⟨b,3,none⟩=some v3∧w.cell? ⟨b,4,none⟩=some v4):w.cell? ⟨b,0,none⟩=some v0∧w.cell? ⟨b,1,none⟩=some v1∧w.cell? ⟨b,2,none⟩=some v2∧w.cell? ⟨b,3,none⟩=some v3∧w.cell? ⟨b,4,none⟩=some v4:=h
def ci(w:World):Type:={ x:World // Below w.heap.size w x }
def ci.w{w:World}(g:ci w):World:=g.1
theorem ci.below{w:World}(g:ci w):Below w.heap.size w g.w:=g.2
instance (w:World):Nonempty (ci w):=⟨⟨w,vQ _ _⟩⟩
theorem ci.cell{w:World}(g:ci w)(p:Addr)(h:p.block<w.heap.size):g.w.cell? p=w.cell? p:=g.2.cell h
theorem ci.frozen{w:World}(g:ci w)(p:Addr)(h:p.block<w.heap.size):g.w.frozen? p=w.frozen? p:=g.2.frozen h
theorem ci.size{w:World}(g:ci w):w.heap.size<=g.w.heap.size:=g.2.size
def AI(w:World)(w':World):Prop:=∃ g:ci w,w'=g.w
theorem AI.of{w w':World}(h:Below w.heap.size w w'):AI w w':=⟨⟨w',h⟩,rfl⟩
theorem Calls.grow_of{P:Program}{f:FuncId}{args:Array Value}{w:World}{g:ci w}{v:Value}
 (h:Calls P f args g.w λe w'=>e = .returned v/\Below g.w.heap.size g.w w'):Calls P f args g.w λe w''=>e = .returned v/\∃ g':ci w,w''=g'.w:=
 h.mono λ_ w' ⟨he,hm⟩=>⟨he,⟨w',g.2.trans (hm.mono g.2.size)⟩,rfl⟩
theorem Calls.grow_same{P:Program}{f:FuncId}{args:Array Value}{w:World}{g:ci w}{v:Value}
 (h:Calls P f args g.w λe w'=>e = .returned v/\g.w=w'):Calls P f args g.w λe w''=>e = .returned v/\∃ g':ci w,w''=g'.w:=
 h.mono λ_ _ ⟨he,hm⟩=>⟨he,g,hm.symm⟩
section
variable {P:Program}
theorem gi{id:Nat}{Q:Exit->Act->World->Prop}{a:Act}{w:World}{l:List Oper}(hm:P.follows .mixedOrders=true)(hB:Region.lexB .any l.toArray=true)
 (h:wpQuiet P l.toArray (λw'=>∃ g:ci w,w'=g.w) (λa'=>∀ w',(∃ g:ci w,w'=g.w)->Q .normal a' w') l a):(Code.region id l.toArray true).wp P Q a w:=
 wp_region_quiet (C:=λw'=>∃ g:ci w,w'=g.w) hm hB ⟨⟨_,(vQ w.heap.size w).drew⟩,rfl⟩ (by simpa using h)
end
theorem eh{W w1:World}(hb:Below W.heap.size W w1):(∀ b o,b<W.heap.size->w1.cell? ⟨b,o,none⟩=W.cell? ⟨b,o,none⟩)/\(∀ b o,b<W.heap.size->w1.frozen? ⟨b,o,none⟩=W.frozen? ⟨b,o,none⟩):=
 ⟨λb o h=>hb.cell (p:=⟨b,o,none⟩) h,λb o h=>hb.frozen (p:=⟨b,o,none⟩) h⟩
theorem aj{a b:Bool}(h:a=b):Ending.returned (.bool a) = .returned (.bool b):=by rw[h]
theorem jM{k:IntKind}{a b:Int}(h:a=b):Ending.returned (.int k a) = .returned (.int k b):=by rw[h]
theorem bO(s:ByteArray):s.data.toList.length=s.size:=rfl
theorem zq(s:ByteArray)(k:Nat)(h:k<s.size):s.data.toList[k]?=some s[k]:=by
 rw[aQ (by rw[bO];exact h)];rfl
theorem CL(s:ByteArray)(h:0<s.size):s.data.toList.head?=some s[0]:=by
 rw[List.head?_eq_getElem?];exact zq s 0 h
theorem Gy(s:ByteArray)(h:s.size - 1<s.size):s.data.toList.getLast?=some s[s.size - 1]:=by
 rw[List.getLast?_eq_getElem?,bO];exact zq s _ h
theorem Mj(s:ByteArray)(k:Nat)(h:k<s.size):s.data.toList.take (k+1)=s.data.toList.take k ++ [s[k]]:=by
 rw[fQ (by simpa using h)];rfl
theorem GY(s:ByteArray)(k:Nat)(h:s.size<=k):s.data.toList.take k=s.data.toList:=kQ (by rw[bO];exact h)
theorem pE(c:UInt8)(n:Nat)(hn:n<256):(c == UInt8.ofNat n)=decide ((c.toNat:Int)=n):=by
 rw[Bool.eq_iff_iff];simp only[beq_iff_eq,Qa];constructor
 ·rintro rfl;simp;omega
 ·intro h;apply UInt8.toNat_inj.1;simp;omega
theorem Ay(c:UInt8):0<=(c.toNat:Int)/\(c.toNat:Int)<=255:=by have:=UInt8.toNat_lt c;omega
theorem iV{s t:ByteArray}(h:s.data.toList=t.data.toList):s=t:=by
 cases s;cases t;simp only at h |-;congr 1;exact Array.toList_inj.1 h
theorem JJ(s:ByteArray)(i j:Nat):(s.extract i j).data.toList=(s.data.toList.take j).drop i:=by
 rw[ByteArray.data_extract];simp[Array.toList_extract,List.extract_eq_take_drop,List.drop_take]
theorem Fh(s:ByteArray)(i:Nat):(s.extract i s.size).data.toList=s.data.toList.drop i:=by
 rw[JJ,kQ (by rw[bO];exact bQ _)]
theorem JK(s:ByteArray)(j:Nat):(s.extract 0 j).data.toList=s.data.toList.take j:=by rw[JJ];rfl
theorem Vz{P:Program}{id:Nat}{Q:Exit->Act->World->Prop}{a:Act}{w:World}{l:List Oper}(n:Nat)(hm:P.follows .mixedOrders=true)(hB:Region.lexTailB .any l.toArray n=true)
 (h:wpStill P l.toArray w.drew (λa'=>wpList P l.toArray Q (l.drop n) a' w.drew) (l.take n) a):(Code.region id l.toArray true).wp P Q a w:=wp_region_still_tail n hm hB h
theorem Calls.still_same{P:Program}{f:FuncId}{args:Array Value}{w:World}{v:Value}(h:Calls P f args w λe w'=>e = .returned v/\w=w'):Calls P f args w λe w''=>e = .returned v/\w''=w:=
 h.mono λ_ _ ⟨he,hw⟩=>⟨he,hw.symm⟩
def fm(w:World)(b o:Nat)(e:List Value):Prop:=∀ j v,e[j]?=some v->w.cell? ⟨b,o+j,none⟩=some v
theorem fm.keep{w w':World}{b o:Nat}{e:List Value}{B:Nat}(h:fm w b o e)(hb:Below B w w')(hB:b<B):fm w' b o e:=
 λj v hj=>(hb.cell (p:=⟨b,o+j,none⟩) hB).trans (h j v hj)
def SlR{α:Type}(R:aDQ α)(sz:Nat)(w:World)(B:Nat)(v:Value)(xs:List α):Prop:=
 ∃ (A:Option Addr) (c:Nat),v = .slice A xs.length c/\xs.length<=c/\xs.length<=140737488355328/\∀ i x,xs[i]?=some x->∃ b o e,A=some ⟨b,o,none⟩/\b<B/\e.length=sz/\fm w b (o+i * sz) e/\R w B e x
def dR{α:Type}(R:aDQ α):Prop:=∀ w w' B e x,R w B e x->Below B w w'->R w' B e x
theorem SlR.keep{α:Type}{R:aDQ α}{sz:Nat}{w w':World}{B:Nat}{v:Value}{xs:List α}(hR:dR R)(h:SlR R sz w B v xs)(hb:Below B w w'):SlR R sz w' B v xs:=by
 obtain⟨A,c,hv,hc,hl,he⟩:=h;refine⟨A,c,hv,hc,hl,λi x hx=>?_⟩;obtain⟨b,o,e,hA,hB,dS,hce,hr⟩:=he i x hx;exact⟨b,o,e,hA,hB,dS,hce.keep hb hB,hR _ _ _ _ _ hr hb⟩
def ef{α:Type}(R:aDQ α):Prop:=∀ w B B' e x,R w B e x->B<=B'->R w B' e x
theorem SlR.more{α:Type}{R:aDQ α}{sz:Nat}{w:World}{B B':Nat}{v:Value}{xs:List α}(hR:ef R)(h:SlR R sz w B v xs)(hB:B<=B'):SlR R sz w B' v xs:=by
 obtain⟨A,c,hv,hc,hl,he⟩:=h;refine⟨A,c,hv,hc,hl,λi x hx=>?_⟩;obtain⟨b,o,e,hA,hb,dS,hce,hr⟩:=he i x hx;exact⟨b,o,e,hA,by omega,dS,hce,hR _ _ _ _ _ hr hB⟩
theorem adK{P:Program}{id:Nat}{Q:Exit->Act->World->Prop}{a:Act}{w:World}{l:List Oper}(h:wpQuiet P l.toArray (λw'=>∃ g:ci w,w'=g.w) (λa'=>∀ w',(∃ g:ci w,w'=g.w)->Q .normal a' w') l a)(hm:P.follows .mixedOrders=true:=by kernel_rfl)(hB:Region.lexB .any l.toArray=true:=by kernel_rfl):(Code.region id l.toArray true).wp P Q a w:=gi hm hB h
end
namespace Np
def sw(c:UInt8):Bool:=97<=c&&c<=122
def qW(c:UInt8):Bool:=48<=c&&c<=57
def nR(c:UInt8):Bool:=sw c||qW c||c == 45
def cD(l:List UInt8):Bool:=decide (1<=l.length)&&decide (l.length<=12)&&!(l.head? == some 45)&&!(l.getLast? == some 45)&&l.all nR
def Jo(l:List UInt8)(c:UInt8)(r:Int):Prop:=(r = -1/\c∉l)\/∃ a b,l=a++c::b/\c∉b/\r=a.length
def be:List UInt8->List (List UInt8)
 | []=>[[]]
 | c::r=>if c=46 then []::be r else match be r with
   | x::xs=>(c::x)::xs
   | []=>[[c]]
theorem oM(l:List UInt8):be l≠[]:=by
 cases l with
 | nil=>simp[be]
 | cons c r=>
  unfold be;split
  ·simp
  ·split<;>simp
theorem ub{l:List UInt8}(h:46∉l):be l = [l]:=by
 induction l with
 | nil=>rfl
 | cons c r ih=>
  have h1:c≠46:=λe=>h (by simp[e]);have h2:46∉r:=λe=>h (by simp[e]);unfold be;rw[Qc h1,ih h2]
theorem yk(a b:List UInt8):be (a++46::b)=be a++be b:=by
 induction a with
 | nil=>simp[be]
 | cons c r ih=>
  rw[List.cons_append];by_cases h:c=46
  ·rw[be,QbQ h,be,QbQ h,ih];rfl
  ·rw[be,Qc h,be,Qc h,ih];have hne:=oM r
   cases hr:be r with
   | nil=>exact absurd hr hne
   | cons x xs=>rfl
def bI(l:List UInt8):List (List UInt8):=if l = [46] then [] else (be l).reverse
def fW:List (List UInt8)->Nat->Bool->Bool
 | [],_,_=>true
 | x::xs,n,wild=>if wild||decide (8<n+1) then false else if x = [42] then fW xs (n+1) true else if cD x then fW xs (n+1) false else false
def ai(l:List UInt8):Bool:=if l = [46] then true else if 60<l.length then false else fW (be l).reverse 0 false
theorem Mf{l y:List UInt8}(h:y∈be l):y.length<=l.length:=by
 induction l generalizing y with
 | nil=>simp[be] at h;subst h;simp
 | cons c r ih=>
  unfold be at h;split at h
  ·rcases List.mem_cons.1 h with e | e
   ·subst e;simp
   ·have:=ih e;simp;omega
  ·split at h
   ·rename_i x xs hx;rcases List.mem_cons.1 h with e | e
    ·subst e;have:=ih (y:=x) (by rw[hx];simp);simp;omega
    ·have:=ih (y:=y) (by rw[hx];simp[e]);simp;omega
   ·simp at h;subst h;simp
theorem B2{l y:List UInt8}(h:y∈bI l):y.length<=l.length:=by
 unfold bI at h;split at h
 ·cases h
 ·exact Mf (List.mem_reverse.1 h)
def pd(c:UInt8):Bool:=sw c||qW c||c == 32
def mi(l:List UInt8):Bool:=decide (1<=l.length)&&decide (l.length<=40)&&!(l.head? == some 32)&&!(l.getLast? == some 32)&&l.all pd
def dC(l:List UInt8):Bool:=l.head? == some 42
structure Rule where
 text:Int
 leastN:Int
 mostN:Int
 leastM:Int
 mostM:Int
 even:Bool
 single:Bool
 wild:Bool
structure Datum where
 text:List UInt8
 n:Int
 m:Int
deriving DecidableEq
def DW(k:Int)(l:List UInt8):Bool:=if k=1 then ai l&&!dC l else if k=2 then ai l else if k=3 then mi l else l == []
def ml(r:Rule)(d:Datum):Bool:=
 (decide (r.leastN<=d.n)&&decide (d.n<=r.mostN))&&(decide (r.leastM<=d.m)&&decide (d.m<=r.mostM))&&!(r.even&&(d.n.tmod 2 != 0))&&DW r.text d.text
def dp(a b:List UInt8):Int:=if Go.Op.bytesLess a b then -1 else if a=b then 0 else 1
def eD(a b:Int):Int:=if a<b then -1 else if b<a then 1 else 0
def rH(a b:Datum):Int:=if dp a.text b.text≠0 then dp a.text b.text else if eD a.n b.n≠0 then eD a.n b.n else eD a.m b.m
def GS:List Rule:=[⟨0,0,0,0,0,false,false,false⟩,⟨0,1,1000000,0,0,false,false,true⟩,⟨1,0,0,0,0,false,false,false⟩,⟨1,0,0,0,0,false,true,false⟩,⟨0,0,65535,0,100000,false,true,false⟩,
 ⟨3,0,0,0,0,false,false,true⟩,⟨0,1,1000000,1,3,false,false,false⟩,⟨0,1,1000000,1,3,false,false,false⟩,⟨2,2,510,0,0,true,false,true⟩]
def du(k:Int):Rule:=GS.getD k.toNat ⟨0,0,0,0,0,false,false,false⟩
structure DSet where
 name:List UInt8
 type:Int
 life:Int
 data:List Datum
deriving DecidableEq
def jy(r:Rule):Option Datum->List Datum->Bool
 | _,[]=>true
 | p,d::ds=>ml r d&&(match p with | none=>true | some q=>decide (rH q d<0))&&jy r (some d) ds
def bi(s:DSet):Bool:=
 ai s.name&&(decide (1<=s.type)&&decide (s.type<=8))&&(decide (0<=s.life)&&decide (s.life<=100000))&&(decide (1<=s.data.length)&&decide (s.data.length<=8)) &&
 !((du s.type).single&&decide (s.data.length≠1))&&!(dC s.name&&!(du s.type).wild)&&jy (du s.type) none s.data
theorem QO{r:Rule}{p:Option Datum}{ds:List Datum}{j:Nat}{d:Datum}(hd:ds[j]?=some d)(h:ml r d=false):jy r p (ds.drop j)=false:=by
 rw[sQ (cQ.1 hd).1,(cQ.1 hd).2];simp[jy,h]
theorem QP{r:Rule}{ds:List Datum}{d:Datum}(hd:ds[0]?=some d)(h:ml r d=true):jy r (ds.take 0).getLast? (ds.drop 0)=jy r (ds.take 1).getLast? (ds.drop 1):=by
 cases ds with
 | nil=>simp at hd
 | cons x r=>simp at hd;subst hd;simp[jy,h]
theorem QQ{r:Rule}{ds:List Datum}{j:Nat}{q d:Datum}(hq:ds[j]?=some q)(hd:ds[j+1]?=some d)(h:ml r d=true) :
 jy r (ds.take (j+1)).getLast? (ds.drop (j+1))=if rH q d<0 then jy r (ds.take (j+1+1)).getLast? (ds.drop (j+1+1)) else false:=by
 have h1:=(cQ.1 hq);have h2:=(cQ.1 hd);rw[sQ h2.1,h2.2,fQ h1.1,h1.2,fQ h2.1,h2.2];simp only[List.getLast?_append,List.getLast?_singleton,Option.some_or,jy,h];split<;>rename_i hc<;>simp[hc]
end Np
section
open Go.RowKit
theorem TK(c:UInt8):Np.nR c=decide ((97<=(c.toNat:Int)/\(c.toNat:Int)<=122)\/(48<=(c.toNat:Int)/\(c.toNat:Int)<=57)\/(c.toNat:Int)=45):=by
 have h:=pE c 45 (by decide);unfold Np.nR Np.sw Np.qW;rw[show (45:UInt8)=UInt8.ofNat 45 from rfl,h,Bool.eq_iff_iff];simp[UInt8.le_iff_toNat_le];omega
theorem a4X(s:ByteArray)(h:(s.size:Int)<1):Np.cD s.data.toList=false:=by
 have:¬ 1<=s.size:=by omega
 simp[Np.cD,this]
theorem a4Y(s:ByteArray)(h:12<(s.size:Int)):Np.cD s.data.toList=false:=by
 have:¬ s.size<=12:=by omega
 simp[Np.cD,this]
theorem a5Q(s:ByteArray)(h0:0<s.size)(h:(s[0].toNat:Int)=45):Np.cD s.data.toList=false:=by
 have e:=pE s[0] 45 (by decide);rw[uQ (by simpa using h)] at e;have e2:s[0]=(45:UInt8):=by simpa using e
 simp[Np.cD,CL s h0,e2]
theorem a5Z(s:ByteArray)(h0:s.size - 1<s.size)(h:(s[s.size - 1].toNat:Int)=45):Np.cD s.data.toList=false:=by
 have e:=pE s[s.size - 1] 45 (by decide);rw[uQ (by simpa using h)] at e;have e2:s[s.size - 1]=(45:UInt8):=by simpa using e
 simp[Np.cD,Gy s h0,e2]
theorem a5J(s:ByteArray)(k:Nat)(hk:k<s.size)(h:Np.nR s[k]=false):Np.cD s.data.toList=false:=by
 have:s.data.toList.all Np.nR=false:=by
  rw[List.all_eq_false];exact⟨s[k],by rw[<-cQ.1 (zq s k hk) |>.2];exact List.getElem_mem _,by simp[h]⟩
 simp[Np.cD,this]
theorem a5K(s:ByteArray)(h1:1<=s.size)(h2:s.size<=12)(h3:¬ (s[0].toNat:Int)=45)(h4:¬ (s[s.size - 1].toNat:Int)=45)(h5:s.data.toList.all Np.nR=true):Np.cD s.data.toList=true:=by
 have e:=pE s[0] 45 (by decide);have e':=pE s[s.size - 1] 45 (by decide);rw[tQ (by simpa using h3)] at e;rw[tQ (by simpa using h4)] at e';have e2:¬ s[0]=(45:UInt8):=by simpa using e
 have e3:¬ s[s.size - 1]=(45:UInt8):=by simpa using e'
 simp[Np.cD,Gy s (by omega),CL s (by omega),e2,e3,h5,h1,h2]
theorem Ju(s:ByteArray)(k:Nat)(h:k<s.size)(p:UInt8->Bool)(h1:(s.data.toList.take k).all p=true)(h2:p s[k]=true):(s.data.toList.take (k+1)).all p=true:=by
 rw[Mj s k h,List.all_append,h1];simp[h2]
theorem Dy(s:ByteArray)(hs:s.size<=140737488355328)(w:World) :
 Calls prog 188 #[.string s] w (aCY w (.bool (Np.cD s.data.toList))):=by
 go_enter func188,ntmps188;go_wp2
 ·go_ret;exact⟨aj (a4X s ‹_›).symm,rfl⟩
 ·go_ret;exact⟨aj (a4Y s ‹_›).symm,rfl⟩
 ·go_ret;exact⟨aj (a5Q s ‹_› ‹_›).symm,rfl⟩
 ·have h:((s[s.size - 1].toNat:Int) == 45)=true:=by assumption
  go_ret;exact⟨aj (a5Z s (by omega) (by simpa using h)).symm,rfl⟩
 ·have h1:1<=(s.size:Int):=by assumption
  have h2:(s.size:Int)<=12:=by assumption
  have h3:¬ (s[0].toNat:Int)=45:=by assumption
  have h4:((s[s.size - 1].toNat:Int) == 45)=false:=by assumption
  have H4:=jq h4;clear h4;have H3:=jq h3;go_loop [28] (λi=>∃ k:Nat,k<=s.size/\i = .int .i64 k/\(s.data.toList.take k).all Np.nR=true) (λi=>s.size - (intOf i).toNat)
  case atStart=>exact⟨0,jQ _,rfl,rfl⟩
  case round=>
   obtain⟨k,hk,rfl,ha⟩:=hrel;have HA:=jq ha;clear ha;by_cases ag:k<s.size
   ·have hb:=Ay s[k];go_wp2
    all_goals first
     | (have hne:((s[k].toNat:Int) != 45)=true:=by assumption
        have C3:=bne_iff_ne.1 hne;go_ret;exact⟨aj (a5J s k ag (by rw[TK];exact acY)).symm,rfl⟩)
     | (have hl:Np.nR s[k]=true:=by
         rw[TK];refine uQ ?_
         first
          | omega
          | (have hne:((s[k].toNat:Int) != 45)=false:=by assumption
             have C3:(s[k].toNat:Int)=45:=by simpa using hne
             omega)
        go_round
        case rel=>exact⟨k+1,by omega,by go_num,Ju s k ag _ HA.out hl⟩
        case measure=>simp[intOf]<;>omega)
   ·go_wp2;go_ret;exact⟨aj (a5K s (by omega) (by omega) H3.out (by simpa using H4.out) (by have:=HA.out;rwa [GY s k (by omega)] at this)).symm,rfl⟩
theorem bGZ(c:Int)(h0:0<=c)(h1:c<=255)(x:UInt8):x=UInt8.ofNat c.toNat↔(x.toNat:Int)=c:=by
 have h:=pE x c.toNat (by omega);rw[Bool.eq_iff_iff] at h;simp only[beq_iff_eq,Qa] at h;rw[h];omega
theorem baZ(s:ByteArray)(c:UInt8)(h:c∉s.data.toList.drop 0):Np.Jo s.data.toList c (-1):=.inl ⟨rfl,by simpa using h⟩
theorem baJ(s:ByteArray)(c:UInt8)(k:Nat)(hk:k<s.size)(h:c∉s.data.toList.drop (k+1))(hc:s[k]=c):Np.Jo s.data.toList c (k:Int):=by
 refine .inr ⟨s.data.toList.take k,s.data.toList.drop (k+1),?_,h,?_⟩
 ·subst hc;rw[show s[k]=s.data.toList[k]'(by rw[bO];exact hk) from rfl,<-sQ,List.take_append_drop]
 ·simp;have:=bO s;simp at this;omega
theorem atQ(s:ByteArray)(c:UInt8)(k:Nat)(hk:k<s.size)(h:c∉s.data.toList.drop (k+1))(hc:¬ s[k]=c):c∉s.data.toList.drop k:=by
 rw[sQ (by rw[bO];exact hk)];intro hm;rcases List.mem_cons.1 hm with e | e
 ·exact hc e.symm
 ·exact h e
def MP(s:ByteArray)(c:UInt8)(w:World)(e:Ending)(w':World):Prop:=∃ r:Int,Np.Jo s.data.toList c r/\e = .returned (.int .i64 r)/\w=w'
theorem baK(s:ByteArray)(hs:s.size<=140737488355328)(c:Int)(h0:0<=c)(h1:c<=255)(w:World) :
 Calls prog 284 #[.string s,.int .u8 c] w (MP s (UInt8.ofNat c.toNat) w):=by
 go_enter func284,ntmps284;go_wp2;go_loop [5] (λi=>∃ k:Int,-1<=k/\k<s.size/\i = .int .i64 k/\Hid (UInt8.ofNat c.toNat∉s.data.toList.drop (k+1).toNat)) (λi=>(intOf i+1).toNat)
 case atStart=>exact⟨_,by omega,by omega,rfl,jq (by rw[List.drop_eq_nil_of_le (by rw[bO];omega)];simp)⟩
 case round=>
  obtain⟨k,df,dg,rfl,H⟩:=hrel;by_cases ag:0<=k
  ·obtain⟨j,rfl⟩:=Int.eq_ofNat_of_zero_le ag;have hj:j<s.size:=by omega
   have hb:=Ay s[j];have hd:=bGZ c h0 h1 s[j];have HD:=jq hd;clear hd;go_wp2
   all_goals first
    | (have he:((s[j].toNat:Int) == c)=true:=by assumption
       go_ret;exact⟨j,baJ s _ j hj (by simpa using H.out) (HD.out.2 (by simpa using he)),rfl,rfl⟩)
    | (have he:((s[j].toNat:Int) == c)=false:=by assumption
       go_round
       case rel=>exact⟨(j:Int) - 1,by omega,by omega,rfl,jq (by have:=atQ s _ j hj (by simpa using H.out) (λe=>by have:=HD.out.1 e;simp[this] at he);simpa using this)⟩
       case measure=>simp[intOf]<;>omega)
  ·obtain rfl:k = -1:=by omega
   go_wp2;go_ret;exact⟨-1,baZ s _ (by simpa using H.out),rfl,rfl⟩
theorem TR(s:ByteArray)(hs:s.size<=140737488355328)(c:Int)(h0:0<=c)(h1:c<=255)(w:World) :
 Calls prog 251 #[.string s,.int .u8 c] w (MP s (UInt8.ofNat c.toNat) w):=by
 go_enter func251,ntmps251;go_wp2_with (go_at_call 284;refine (baK _ hs _ h0 h1 _).mono ?_;rintro e w' ⟨r,hr,rfl,rfl⟩);go_ret;exact⟨r,hr,rfl,rfl⟩
end
namespace D
open Go.RowKit
structure Below(B:Nat)(w w':World):Prop where
 os:w'.os=w.os
 tape:w'.tape=w.tape
 output:w'.output=w.output
 size:w.heap.size<=w'.heap.size
 block:∀ k,k<B->w'.heap[k]?=w.heap[k]?
 drawn:w.drawn<=w'.drawn
theorem Below.low{B:Nat}{w w':World}(h:Below B w w'):Go.RowKit.Below B w w':=⟨h.os,h.tape,h.output,h.size,h.block⟩
theorem vQ(B:Nat)(w:World):Below B w w:=⟨rfl,rfl,rfl,bQ _,λ_ _=>rfl,bQ _⟩
theorem Below.trans{B:Nat}{a b c:World}(h:Below B a b)(k:Below B b c):Below B a c:=
 ⟨k.os.trans h.os,k.tape.trans h.tape,k.output.trans h.output,yQ h.size k.size,λi hi=>(k.block i hi).trans (h.block i hi),yQ h.drawn k.drawn⟩
theorem Below.mono{B B':Nat}{w w':World}(h:Below B w w')(hB:B'<=B):Below B' w w':=⟨h.os,h.tape,h.output,h.size,λk hk=>h.block k (lqQ hk hB),h.drawn⟩
theorem Below.drew{B:Nat}{a w:World}(h:Below B a w):Below B a w.drew:=⟨h.os,h.tape,h.output,h.size,h.block,Nat.le_succ_of_le h.drawn⟩
theorem Below.heap_alloc(w:World)(o:Obj)(k:Nat)(h:k<w.heap.size):(w.alloc o).heap[k]?=w.heap[k]?:=Go.RowKit.Below.heap_alloc w o k h
theorem wQ(w:World)(a:Addr)(u:Value)(k:Nat)(h:k≠a.block):(w.setCell a u).heap[k]?=w.heap[k]?:=Go.RowKit.Below.heap_setCell w a u k h
theorem Below.alloc{B:Nat}{a w:World}(h:Below B a w)(hB:B<=w.heap.size)(o:Obj):Below B a (w.alloc o):=
 h.trans ⟨rfl,rfl,rfl,by simp,λk hk=>Below.heap_alloc _ _ _ (by omega),bQ _⟩
theorem Below.setCell{B:Nat}{a w:World}(h:Below B a w){p:Addr}(hp:B<=p.block)(u:Value):Below B a (w.setCell p u):=
 h.trans ⟨rfl,rfl,rfl,by simp[World.setCell],λk hk=>wQ _ _ _ _ (by omega),bQ _⟩
theorem Below.cell{B:Nat}{w w':World}(h:Below B w w'){p:Addr}(hp:p.block<B):w'.cell? p=w.cell? p:=h.low.cell hp
theorem Below.frozen{B:Nat}{w w':World}(h:Below B w w'){p:Addr}(hp:p.block<B):w'.frozen? p=w.frozen? p:=h.low.frozen hp
structure ItStep(B:Nat)(S:Nat->Prop)(W W':World):Prop where
 os:W'.os=W.os
 tape:W'.tape=W.tape
 output:W'.output=W.output
 size:W.heap.size<=W'.heap.size
 keep:∀ k,k<W.heap.size->(k<B\/S k)->W'.heap[k]?=W.heap[k]?
 drawn:W.drawn<=W'.drawn
structure RdStep(S:Nat->Prop)(W W':World):Prop where
 os:W'.os=W.os
 tape:W'.tape=W.tape
 output:W'.output=W.output
 size:W.heap.size<=W'.heap.size
 keep:∀ k,k<W.heap.size->¬ S k->W'.heap[k]?=W.heap[k]?
 drawn:W.drawn<=W'.drawn
theorem ItStep.refl(B:Nat)(S:Nat->Prop)(W:World):ItStep B S W W:=⟨rfl,rfl,rfl,bQ _,λ_ _ _=>rfl,bQ _⟩
theorem RdStep.refl(S:Nat->Prop)(W:World):RdStep S W W:=⟨rfl,rfl,rfl,bQ _,λ_ _ _=>rfl,bQ _⟩
theorem ItStep.trans{B:Nat}{S:Nat->Prop}{A W C:World}(h:ItStep B S A W)(k:ItStep B S W C):ItStep B S A C:=
 ⟨k.os.trans h.os,k.tape.trans h.tape,k.output.trans h.output,yQ h.size k.size,λi hi hs=>(k.keep i (lqQ hi h.size) hs).trans (h.keep i hi hs),yQ h.drawn k.drawn⟩
theorem RdStep.trans{S S':Nat->Prop}{A W C:World}(h:RdStep S A W)(k:RdStep S' W C)(hS:∀ i,S' i->S i\/A.heap.size<=i):RdStep S A C:=
 ⟨k.os.trans h.os,k.tape.trans h.tape,k.output.trans h.output,yQ h.size k.size,λi hi hs=>
  (k.keep i (lqQ hi h.size) (λe=>by rcases hS i e with e | e;exact hs e;omega)).trans (h.keep i hi hs),yQ h.drawn k.drawn⟩
theorem RdStep.mono{S S':Nat->Prop}{A W:World}(h:RdStep S A W)(hS:∀ i,S i->S' i):RdStep S' A W:=
 ⟨h.os,h.tape,h.output,h.size,λi hi hs=>h.keep i hi (λe=>hs (hS i e)),h.drawn⟩
theorem ItStep.of_below{B:Nat}{S:Nat->Prop}{A W:World}(h:Below A.heap.size A W):ItStep B S A W:=
 ⟨h.os,h.tape,h.output,h.size,λk hk _=>h.block k hk,h.drawn⟩
theorem RdStep.of_below{S:Nat->Prop}{A W:World}(h:Below A.heap.size A W):RdStep S A W:=
 ⟨h.os,h.tape,h.output,h.size,λk hk _=>h.block k hk,h.drawn⟩
theorem RdStep.below{S:Nat->Prop}{A W:World}{n:Nat}(h:RdStep S A W)(hn:n<=A.heap.size)(hS:∀ k,S k->n<=k):Below n A W:=
 ⟨h.os,h.tape,h.output,h.size,λk hk=>h.keep k (by omega) (λe=>by have:=hS k e;omega),h.drawn⟩
theorem RdStep.setCell{S:Nat->Prop}{A W:World}(h:RdStep S A W){p:Addr}(hp:S p.block\/A.heap.size<=p.block)(u:Value):RdStep S A (W.setCell p u):=
 ⟨h.os,h.tape,h.output,by simpa [World.setCell] using h.size,λk hk hs=>(wQ _ _ _ _ (by rintro rfl;rcases hp with hp | hp;exact hs hp;omega)).trans (h.keep k hk hs),h.drawn⟩
theorem RdStep.alloc{S:Nat->Prop}{A W:World}(h:RdStep S A W)(o:Obj):RdStep S A (W.alloc o):=
 ⟨h.os,h.tape,h.output,yQ h.size (by simp),λk hk hs=>(Below.heap_alloc _ _ _ (lqQ hk h.size)).trans (h.keep k hk hs),h.drawn⟩
theorem RdStep.drew{S:Nat->Prop}{A W:World}(h:RdStep S A W):RdStep S A W.drew:=⟨h.os,h.tape,h.output,h.size,h.keep,Nat.le_succ_of_le h.drawn⟩
def iy{β:Type}(B:Nat)(J:β->(Nat->Prop)->World->Prop):Prop:=∀ s S W W',J s S W->ItStep B S W W'->J s S W'
def ze{α:Type}(J Jx:List α->(Nat->Prop)->World->Prop)(pre:List α)(x:α)(S:Nat->Prop)(W:World)(e:Ending)(W':World):Prop:=
 ∃ S':Nat->Prop,RdStep S W W'/\(∀ k,S' k->S k\/W.heap.size<=k)/\(∀ k,S' k->k<W'.heap.size)/\
   ((e = .returned (.bool true)/\J (pre ++ [x]) S' W')\/(e = .returned (.bool false)/\Jx (pre ++ [x]) S' W'))
def EX{α:Type}(P:Program)(gf:FuncId)(mk:Value->Array Value)(encs:α->Array Value)(xs:List α)(n₀:Nat)(w:World):Prop:=
 ∀ (l:Nat) (J Jx:List α->(Nat->Prop)->World->Prop) (S:Nat->Prop) (W:World),Below n₀ w W->
   iy W.heap.size J->iy W.heap.size Jx->
   (∀ pre x S1 W1,pre ++ [x] <+: xs->J pre S1 W1->(∀ k,S1 k->k<W1.heap.size)->W.heap.size<=W1.heap.size->
     YieldAt Fence.wide 0 P l (encs x) W1 (ze J Jx pre x S1 W1))->
   (∀ k,S k->n₀<=k)->(∀ k,S k->k<W.heap.size)->J [] S W->
   CallsIn Fence.wide 0 P gf (mk (.func (.yield l) #[] #[])) W λe W'=>(∃ v,e = .returned v)/\
    ((∃ S',J xs S' W'/\(∀ k,S' k->S k\/W.heap.size<=k))\/(∃ pre S',pre <+: xs/\Jx pre S' W'/\(∀ k,S' k->S k\/W.heap.size<=k)))
def lR{α:Type}(I:List α->(Nat->Prop)->World->Prop)(Ix:Code->List α->(Nat->Prop)->World->Prop)(xs:List α)(S:Nat->Prop)(W:World):Exit->Act->World->Prop
 | .normal,_,W'=>∃ S',RdStep S W W'/\(∀ k,S' k->S k\/W.heap.size<=k)/\(∀ k,S' k->k<W'.heap.size)/\I xs S' W'
 | .ret,_,W'=>∃ S',RdStep S W W'/\(∀ k,S' k->S k\/W.heap.size<=k)/\(∀ k,S' k->k<W'.heap.size)/\Ix .ret xs S' W'
 | .exit id,_,W'=>∃ S',RdStep S W W'/\(∀ k,S' k->S k\/W.heap.size<=k)/\(∀ k,S' k->k<W'.heap.size)/\Ix (.exit id) xs S' W'
 | _,_,_=>False
theorem nO{B:Nat}{S:Nat->Prop}{W:World}{l:Nat}(o:Obj)(hl:B<=l)(hS:¬ S l):ItStep B S W (W.putObj l o):=
 ⟨rfl,rfl,rfl,by simp,λk _ hk=>zQ (by rintro rfl;rcases hk with hk | hk;omega;exact hS hk),bQ _⟩
theorem x7{B:Nat}{S:Nat->Prop}{W:World}(o:Obj):ItStep B S W (W.alloc o):=
 ⟨rfl,rfl,rfl,by simp,λk hk _=>Below.heap_alloc _ _ _ hk,bQ _⟩
theorem ItStep.weaken{B B':Nat}{S S':Nat->Prop}{W W':World}(h:ItStep B S W W')(hB:B'<=B)(hS:∀ k,S' k->S k):ItStep B' S' W W':=
 ⟨h.os,h.tape,h.output,h.size,λk hk hs=>h.keep k hk (hs.imp (λe=>by omega) (hS k)),h.drawn⟩
theorem bPZ{α:Type}{P:Program}{g:Operand}{ps:Array Tmp}{assign body:Code}{Q:Exit->Act->World->Prop}{a:Act}{w:World}
 {gf:FuncId} {first captured:Array Value} (hg:a.eval g = .func (.func gf) first captured) (eg:∀ args w,(callFunc gf args).run P w = .ok (.enter gf args) w)
 {mk:Value->Array Value} {encs:α->Array Value} {xs:List α} {n₀:Nat} {w0:World} (fd:∀ y,mk y=first ++ #[y]++captured)
 (hit:EX P gf mk encs xs n₀ w0) (cL:Below n₀ w0 w) (tH:n₀<=w.heap.size) (ej:∀ x,(encs x).size=ps.size)
 (I:List α->(Nat->Prop)->World->Prop) (Ix:Code->List α->(Nat->Prop)->World->Prop) (A:List α->α->(Nat->Prop)->Act->World->Prop)
 (hI:iy w.heap.size I) (gm:∀ c,iy w.heap.size (Ix c)) (hA:∀ pre x S a' W W',A pre x S a' W->ItStep w.heap.size S W W'->A pre x S a' W')
 (S0:Nat->Prop) (mH:∀ k,S0 k->n₀<=k) (ie:∀ k,S0 k->k<w.heap.size) (h0:I [] S0 w)
 (xl:∀ (l:Nat) (pre:List α) (x:α) (S:Nat->Prop) (W:World),pre ++ [x] <+: xs->I pre S W->(∀ k,S k->k<W.heap.size)->
   assign.wpIn (Fence.wide.inRound l) 0 P (Exit.then (λa₁ W₁=>∃ S',RdStep S W W₁/\(∀ k,S' k->S k\/W.heap.size<=k)/\(∀ k,S' k->k<W₁.heap.size)/\A pre x S' a₁ W₁) (λ_ _ _=>False))
    { tmps:=(ps.zip (encs x)).foldl (λt (p,v)=>t.setIfInBounds p v) a.tmps,defers:=[] } W)
 (xp:∀ (l:Nat) (pre:List α) (x:α) (S:Nat->Prop) (a₁:Act) (W:World),pre ++ [x] <+: xs->A pre x S a₁ W->(∀ k,S k->k<W.heap.size)->
   body.wpIn (Fence.wide.inRound l) 0 P (lR I Ix (pre ++ [x]) S W) a₁ W)
 (mN:∀ (D:Nat) (S:Nat->Prop) (W:World),w.heap.size<=D->¬ S D->(∀ k,S k->S0 k\/w.heap.size<=k)->I xs S W->W.heap[D]?=some (.deferred (some []))->
   Q .normal { a with defers:={ target:=.collected D,args:=#[] } :: a.defers } W)
 (mV:∀ (D:Nat) (c:Code) (pre:List α) (S:Nat->Prop) (W:World),w.heap.size<=D->¬ S D->(∀ k,S k->S0 k\/w.heap.size<=k)->pre <+: xs->Ix c pre S W->W.heap[D]?=some (.deferred (some []))->
   c.wpIn Fence.wide 0 P Q { a with defers:={ target:=.collected D,args:=#[] } :: a.defers } W) :
 (Code.rangeFunc g ps assign body).wpIn Fence.wide 0 P Q a w:=by
 refine wpIn_rangeFunc ?_;intro fn tB;show ∃ (l:Nat) (mark:List Deferred) (w₁:World) (d:Deferred) (w₁':World) (f:FuncId) (args:Array Value) (w₂:World),(Instr.enterLoop fn a.tmps ps assign body none).run P w = .ok (l,mark) w₁/\_;obtain⟨rec,dW⟩:∃ rec:LoopState->Option Code->Loop,rec=λst pe=>{ state:=st,pending:=pe,fn,tmps:=a.tmps,params:=ps,assign,body,defers:=w.heap.size }:=⟨_,rfl⟩;obtain⟨W1,dD⟩:=aaK ((w.alloc (.deferred (some []))).alloc (.loop (rec .ready none)));have aB:W1.heap.size=w.heap.size+2:=by rw[<-dD];simp
 have om:W1.heap[w.heap.size+1]?=some (.loop (rec .ready none)):=by
  rw[<-dD];have:=World.alloc_heap_new (w.alloc (.deferred (some []))) (.loop (rec .ready none));rwa [World.size_alloc] at this
 have xg:W1.heap[w.heap.size]?=some (.deferred (some [])):=by
  rw[<-dD];exact (Below.heap_alloc _ _ _ (by simp)).trans (World.alloc_heap_new w _)
 have ol:I [] S0 W1:=by rw[<-dD];exact hI _ _ _ _ (hI _ _ _ _ h0 (x7 _)) (x7 _)
 have av:Below n₀ w0 W1:=by
  rw[<-dD];exact cL.trans ((((vQ _ w).alloc (bQ _) _).alloc (by simp) _).mono tH)
 refine⟨w.heap.size+1,[{ target:=.collected w.heap.size,args:=#[] }],W1,{ target:=.fn (.func gf) captured,args:=first ++ #[.func (.yield (w.heap.size+1)) #[] #[]] },W1,gf,
  first ++ #[.func (.yield (w.heap.size+1)) #[] #[]]++captured,W1,?_,?_,?_,?_,λh=>by simp[Fence.wide] at h,?_⟩
 ·rw[<-dD,dW];exact run_enterLoop_outer _ _ _ _ _
 ·simp only[resolve,hg];simp[go_sem]
 ·intro f' _;trivial
 ·simp[invoke,go_sem,eg]
 ·rw[<-fd];have key:=hit (w.heap.size+1)
   (λpre Si W=>∃ S:Nat->Prop,(∀ k,Si k↔S k\/k=w.heap.size+1)/\(¬ S w.heap.size)/\(¬ S (w.heap.size+1))/\(∀ k,S k->S0 k\/w.heap.size<=k)/\I pre S W/\W.heap[w.heap.size+1]?=some (.loop (rec .ready none))/\W.heap[w.heap.size]?=some (.deferred (some [])))
   (λpre Si W=>∃ (S:Nat->Prop) (c:Code),(∀ k,Si k↔S k\/k=w.heap.size+1)/\(¬ S w.heap.size)/\(¬ S (w.heap.size+1))/\(∀ k,S k->S0 k\/w.heap.size<=k)/\Ix c pre S W/\W.heap[w.heap.size+1]?=some (.loop (rec .done (some c)))/\W.heap[w.heap.size]?=some (.deferred (some [])))
   (λk=>S0 k\/k=w.heap.size+1) W1 av ?_ ?_ ?_ ?_ ?_ ?_
  ·refine key.mono ?_;rintro e W2 ⟨⟨v,rfl⟩,(⟨S',⟨S,cy,hD,hL,bJ,hi,hl,hk⟩,_⟩ | ⟨pre,S',mf,⟨S,c,cy,hD,hL,bJ,hi,hl,hk⟩,_⟩)⟩
   ·refine⟨none,_,by have:=run_endLoop (P:=P) hl (by rw[dW];simp);rw[dW] at this;exact this,?_⟩;exact mN _ S _ (bQ _) hD bJ (hI _ _ _ _ hi (nO _ (by omega) hL)) ((zQ (by omega)).trans hk)
   ·refine⟨some c,_,by have:=run_endLoop (P:=P) hl (by rw[dW];simp);rw[dW] at this;exact this,?_⟩;exact mV _ c pre S _ (bQ _) hD bJ mf ((gm c) _ _ _ _ hi (nO _ (by omega) hL)) ((zQ (by omega)).trans hk)
  ·rintro pre Si A1 B1 ⟨S,cy,hD,hL,bJ,hi,hl,hk⟩ aH;have ag:w.heap.size+1<A1.heap.size:=(eQ.1 hl).1;exact⟨S,cy,hD,hL,bJ,hI _ _ _ _ hi (aH.weaken (by omega) (λk e=>(cy k).2 (.inl e))),(aH.keep _ ag (.inl (by omega))).trans hl,(aH.keep _ (by omega) (.inl (by omega))).trans hk⟩
  ·rintro pre Si A1 B1 ⟨S,c,cy,hD,hL,bJ,hi,hl,hk⟩ aH;have ag:w.heap.size+1<A1.heap.size:=(eQ.1 hl).1;exact⟨S,c,cy,hD,hL,bJ,gm c _ _ _ _ hi (aH.weaken (by omega) (λk e=>(cy k).2 (.inl e))),(aH.keep _ ag (.inl (by omega))).trans hl,(aH.keep _ (by omega) (.inl (by omega))).trans hk⟩
  ·
   rintro pre x Si W bW ⟨S,cy,hD,hL,bJ,hi,hl,hk⟩ fG xk;have ag:w.heap.size+1<W.heap.size:=(eQ.1 hl).1;have xj:∀ k,S k->k<W.heap.size:=λk e=>fG k ((cy k).2 (.inl e));have hy:=run_yield (P:=P) (args:=encs x) hl (by rw[dW];exact ej x);rw[dW] at hy;refine⟨fn,_,assign,body,hy,roundIn_of_wpIn tB (wpIn_mono (xl _ pre x S W bW hi xj) ?_)⟩;intro e a1 Wa hq
   cases e with
   | normal=>
    obtain⟨S1,dl,cJ,tR,xc⟩:=hq;have qG:¬ S1 w.heap.size:=λe=>by rcases cJ _ e with e | e;exact hD e;omega
    have mS:¬ S1 (w.heap.size+1):=λe=>by rcases cJ _ e with e | e;exact hL e;omega
    have l4:Wa.heap[w.heap.size+1]?=some (.loop (rec .ready none)):=(dl.keep _ ag hL).trans hl;have xH:Wa.heap[w.heap.size]?=some (.deferred (some [])):=(dl.keep _ (by omega) hD).trans hk;have qF:w.heap.size+1<Wa.heap.size:=(eQ.1 l4).1;refine⟨_,run_beginRound l4 (by rw[dW]),?_⟩;have hb:=xp (w.heap.size+1) pre x S1 a1 (Wa.putObj (w.heap.size+1) (.loop { rec .ready none with state:=.busy })) bW (hA _ _ _ _ _ _ xc (nO _ (by omega) mS)) (λk e=>by simpa using tR k e);refine wpIn_mono hb ?_;have fin:∀ (jump:Option Code) (W3:World) (S3:Nat->Prop),RdStep S1 (Wa.putObj (w.heap.size+1) (.loop { rec .ready none with state:=.busy })) W3->(∀ k,S3 k->S1 k\/(Wa.putObj (w.heap.size+1) (.loop { rec .ready none with state:=.busy })).heap.size<=k)->(∀ k,S3 k->k<W3.heap.size)->
     (Instr.endRound (w.heap.size+1) jump).run P W3 = .ok (.bool jump.isNone) (W3.putObj (w.heap.size+1) (.loop (rec (if jump.isNone then .ready else .done) jump)))/\
     (W3.putObj (w.heap.size+1) (.loop (rec (if jump.isNone then .ready else .done) jump))).heap[w.heap.size+1]?=some (.loop (rec (if jump.isNone then .ready else .done) jump))/\
     (W3.putObj (w.heap.size+1) (.loop (rec (if jump.isNone then .ready else .done) jump))).heap[w.heap.size]?=some (.deferred (some []))/\
     ¬ S3 w.heap.size/\¬ S3 (w.heap.size+1)/\(∀ k,S3 k->S k\/W.heap.size<=k)/\
     RdStep Si W (W3.putObj (w.heap.size+1) (.loop (rec (if jump.isNone then .ready else .done) jump))):=λjump W3 S3 bX bR cB=>by
     have ei:(Wa.putObj (w.heap.size+1) (.loop { rec .ready none with state:=.busy })).heap[w.heap.size+1]?=some (.loop { rec .ready none with state:=.busy }):=World.putObj_heap_same qF;have qD:(Wa.putObj (w.heap.size+1) (.loop { rec .ready none with state:=.busy })).heap[w.heap.size]?=some (.deferred (some [])):=(zQ (by omega)).trans xH;have kh:=(bX.keep _ (by simpa using qF) mS).trans ei;have jE:=(bX.keep _ (by simp;omega) qG).trans qD;have ma:=(eQ.1 kh).1
     have:=run_endRound (P:=P) jump kh
     rw[dW] at this |-;have ll:=bX.size;have qQ:=dl.size;simp only[World.putObj_size] at ll bR;refine⟨this,World.putObj_heap_same ma,(zQ (by omega)).trans jE,λe=>?_,λe=>?_,λk e=>?_,?_⟩
     ·rcases bR _ e with e | e;exact qG e;omega
     ·rcases bR _ e with e | e;exact mS e;omega
     ·rcases bR _ e with e | e
      ·exact cJ _ e
      ·right;omega
     ·refine⟨bX.os.trans dl.os,bX.tape.trans dl.tape,bX.output.trans dl.output,by simp;omega,λk hk' qH=>?_,yQ dl.drawn bX.drawn⟩;have fZ:k≠w.heap.size+1:=λe=>qH ((cy k).2 (.inr e));have qI:¬ S k:=λe=>qH ((cy k).2 (.inl e));have xJ:¬ S1 k:=λe=>by rcases cJ _ e with e | e;exact qI e;omega
      exact (zQ fZ).trans ((bX.keep k (by simp;omega) xJ).trans ((zQ fZ).trans (dl.keep k hk' qI)))
    have fin2:∀ (S3:Nat->Prop) (W3:World) (o:Obj),(∀ k,S3 k->k<W3.heap.size)->W.heap.size<=W3.heap.size->(∀ k,S3 k->S k\/W.heap.size<=k)->
     (∀ k,(S3 k\/k=w.heap.size+1)->Si k\/W.heap.size<=k)/\(∀ k,(S3 k\/k=w.heap.size+1)->k<(W3.putObj (w.heap.size+1) o).heap.size):=λS3 W3 o h1 h2 h3=>
     ⟨λk e=>by rcases e with e | e;exact (h3 k e).imp (λe'=>(cy k).2 (.inl e')) id;exact .inl ((cy k).2 (.inr e)),λk e=>by
      simp only[World.putObj_size];rcases e with e | e
      ·exact h1 k e
      ·omega⟩
    have sub3:∀ (S3:Nat->Prop),(∀ k,S3 k->S k\/W.heap.size<=k)->∀ k,S3 k->S0 k\/w.heap.size<=k:=λS3 h k e=>by
     rcases h k e with e | e
     ·exact bJ k e
     ·right;omega
    rintro e a3 W3 hp
    cases e with
    | normal=>
     obtain⟨S3,bX,bR,cB,ij⟩:=hp;obtain⟨hr,gS,ft,fI,eI,dh,cp⟩:=fin none W3 S3 bX bR cB;have aB:W.heap.size<=W3.heap.size:=by simpa using cp.size
     refine⟨_,_,hr,λk=>S3 k\/k=w.heap.size+1,cp,(fin2 S3 W3 (.deferred none) cB aB dh).1,(fin2 S3 W3 _ cB aB dh).2,.inl ⟨rfl,S3,λ_=>Iff.rfl,fI,eI,sub3 S3 dh,hI _ _ _ _ ij (nO _ (by omega) eI),gS,ft⟩⟩
    | ret=>
     obtain⟨S3,bX,bR,cB,ij⟩:=hp;obtain⟨hr,gS,ft,fI,eI,dh,cp⟩:=fin (some .ret) W3 S3 bX bR cB;have aB:W.heap.size<=W3.heap.size:=by simpa using cp.size
     refine⟨_,_,hr,λk=>S3 k\/k=w.heap.size+1,cp,(fin2 S3 W3 (.deferred none) cB aB dh).1,(fin2 S3 W3 _ cB aB dh).2,.inr ⟨rfl,S3,.ret,λ_=>Iff.rfl,fI,eI,sub3 S3 dh,gm _ _ _ _ _ ij (nO _ (by omega) eI),gS,ft⟩⟩
    | exit id=>
     obtain⟨S3,bX,bR,cB,ij⟩:=hp;obtain⟨hr,gS,ft,fI,eI,dh,cp⟩:=fin (some (.exit id)) W3 S3 bX bR cB;have aB:W.heap.size<=W3.heap.size:=by simpa using cp.size
     refine⟨_,_,hr,λk=>S3 k\/k=w.heap.size+1,cp,(fin2 S3 W3 (.deferred none) cB aB dh).1,(fin2 S3 W3 _ cB aB dh).2,.inr ⟨rfl,S3,.exit id,λ_=>Iff.rfl,fI,eI,sub3 S3 dh,gm _ _ _ _ _ ij (nO _ (by omega) eI),gS,ft⟩⟩
    | goto t=>exact hp.elim
    | panic ch=>exact hp.elim
    | outgrown=>exact hp.elim
   | ret=>exact hq.elim
   | exit id=>exact hq.elim
   | goto t=>exact hq.elim
   | panic ch=>exact hq.elim
   | outgrown=>exact hq.elim
  ·rintro k (e | rfl)
   ·exact mH k e
   ·omega
  ·rintro k (e | rfl)
   ·have:=ie k e;omega
   ·omega
  ·exact⟨S0,λ_=>Iff.rfl,λe=>by have:=ie _ e;omega,λe=>by have:=ie _ e;omega,λ_ e=>.inl e,ol,om,xg⟩
theorem lS{B:Nat}{S:Nat->Prop}{W W':World}{b:Nat}{t:TypeId}{v:Value}(h:Boxed W b t v)(hs:ItStep B S W W')(hb:S b):Boxed W' b t v:=(hs.keep b h.lt (.inr hb)).trans h
theorem uI{n B:Nat}{S:Nat->Prop}{w W W':World}(h:Below n w W)(hs:ItStep B S W W')(hB:n<=B)(hn:n<=w.heap.size):Below n w W':=
 ⟨hs.os.trans h.os,hs.tape.trans h.tape,hs.output.trans h.output,yQ h.size hs.size,λk hk=>(hs.keep k (by have:=h.size;omega) (.inl (by omega))).trans (h.block k hk),yQ h.drawn hs.drawn⟩
theorem uJ{n:Nat}{W W':World}{b:Nat}{t:TypeId}{v:Value}(h:Boxed W b t v)(hs:Below n W W')(hb:b<n):Boxed W' b t v:=(hs.block b hb).trans h
theorem fC{W:World}{b:Nat}{t:TypeId}{v:Value}(h:Boxed W b t v){p:Addr}(hp:b≠p.block)(u:Value):Boxed (W.setCell p u) b t v:=(wQ W p u b hp).trans h
theorem zl{P:Program}{fn:Func}{R:Ending->World->Prop}{tmps:Array Value}{w:World}{v:Value}(qM:(results fn tmps).run P w = .ok v w)(hR:R (.returned v) w) :
 bodyPostM Fence.wide 0 P fn R .ret { tmps:=tmps,defers:=[] } w:=⟨_,qM,hR⟩
theorem pb{P:Program}{fn:Func}{R:Ending->World->Prop}{tmps:Array Value}{W:World}{D:Nat}{v:Value}(hK:W.heap[D]?=some (.deferred (some [])))
 (qM:(results fn tmps).run P (W.putObj D (.deferred none)) = .ok v (W.putObj D (.deferred none))) (hR:R (.returned v) (W.putObj D (.deferred none))) :
 bodyPostM Fence.wide 0 P fn R .ret { tmps:=tmps,defers:=[{ target:=.collected D,args:=#[] }] } W:=
 ⟨by simp,.inl ⟨_,_,rfl,run_takeDeferred hK,_,qM,hR⟩⟩
theorem o7{n D:Nat}{w W:World}(h:Below n w W)(hD:n<=D)(o:Obj):Below n w (W.putObj D o):=
 ⟨h.os,h.tape,h.output,by simpa using h.size,λk hk=>(zQ (by omega)).trans (h.block k hk),h.drawn⟩
theorem th{W:World}{b D:Nat}{t:TypeId}{v:Value}(h:Boxed W b t v)(hD:b≠D)(o:Obj):Boxed (W.putObj D o) b t v:=(zQ hD).trans h
theorem ME{α:Type}{P:Program}{g:Operand}{ps:Array Tmp}{assign body:Code}{Q:Exit->Act->World->Prop}{a:Act}{w:World}
 {gf:FuncId} {first captured:Array Value} (hg:a.eval g = .func (.func gf) first captured) (eg:∀ args w,(callFunc gf args).run P w = .ok (.enter gf args) w)
 {mk:Value->Array Value} {encs:α->Array Value} {xs:List α} {n₀:Nat} {w0:World} (fd:∀ y,mk y=first ++ #[y]++captured)
 (hit:EX P gf mk encs xs n₀ w0) (cL:Below n₀ w0 w) (tH:n₀<=w.heap.size) (ej:∀ x,(encs x).size=ps.size)
 (I:List α->(Nat->Prop)->World->Prop) (Ix:Code->List α->(Nat->Prop)->World->Prop)
 (hI:iy w.heap.size I) (gm:∀ c,iy w.heap.size (Ix c))
 (S0:Nat->Prop) (mH:∀ k,S0 k->n₀<=k) (ie:∀ k,S0 k->k<w.heap.size) (h0:I [] S0 w)
 (xT:∀ (l0:Nat) (pre:List α) (x:α) (S:Nat->Prop) (W:World),pre ++ [x] <+: xs->I pre S W->(∀ k,S k->k<W.heap.size)->
   assign.wpIn (Fence.wide.inRound l0) 0 P (Exit.then (λa₁ W₁=>∃ S',RdStep S W W₁/\(∀ k,S' k->S k\/W.heap.size<=k)/\(∀ k,S' k->k<W₁.heap.size)/\
    ∀ l W₂,ItStep w.heap.size S' W₁ W₂->body.wpIn (Fence.wide.inRound l) 0 P (lR I Ix (pre ++ [x]) S' W₂) a₁ W₂) (λ_ _ _=>False))
    { tmps:=(ps.zip (encs x)).foldl (λt (p,v)=>t.setIfInBounds p v) a.tmps,defers:=[] } W)
 (mN:∀ (D:Nat) (S:Nat->Prop) (W:World),w.heap.size<=D->¬ S D->(∀ k,S k->S0 k\/w.heap.size<=k)->I xs S W->W.heap[D]?=some (.deferred (some []))->
   Q .normal { a with defers:={ target:=.collected D,args:=#[] } :: a.defers } W)
 (mV:∀ (D:Nat) (c:Code) (pre:List α) (S:Nat->Prop) (W:World),w.heap.size<=D->¬ S D->(∀ k,S k->S0 k\/w.heap.size<=k)->pre <+: xs->Ix c pre S W->W.heap[D]?=some (.deferred (some []))->
   c.wpIn Fence.wide 0 P Q { a with defers:={ target:=.collected D,args:=#[] } :: a.defers } W) :
 (Code.rangeFunc g ps assign body).wpIn Fence.wide 0 P Q a w:=
 bPZ hg eg fd hit cL tH ej I Ix (λpre x S a₁ W=>∀ l W₂,ItStep w.heap.size S W W₂->body.wpIn (Fence.wide.inRound l) 0 P (lR I Ix (pre ++ [x]) S W₂) a₁ W₂)
  hI gm (λ_ _ _ _ _ _ h hs l W₂ h2=>h l W₂ (hs.trans h2)) S0 mH ie h0 xT (λl _ _ _ _ W _ h _=>h l W (ItStep.refl _ _ _)) mN mV
def ci(w:World):Type:={ x:World // Below w.heap.size w x }
def ci.w{w:World}(g:ci w):World:=g.1
theorem ci.below{w:World}(g:ci w):Below w.heap.size w g.w:=g.2
instance (w:World):Nonempty (ci w):=⟨⟨w,vQ _ _⟩⟩
theorem ci.cell{w:World}(g:ci w)(p:Addr)(h:p.block<w.heap.size):g.w.cell? p=w.cell? p:=g.2.cell h
theorem ci.frozen{w:World}(g:ci w)(p:Addr)(h:p.block<w.heap.size):g.w.frozen? p=w.frozen? p:=g.2.frozen h
theorem ci.size{w:World}(g:ci w):w.heap.size<=g.w.heap.size:=g.2.size
def AI(w:World)(w':World):Prop:=∃ g:ci w,w'=g.w
theorem AI.of{w w':World}(h:Below w.heap.size w w'):AI w w':=⟨⟨w',h⟩,rfl⟩
theorem Calls.grow_of{P:Program}{f:FuncId}{args:Array Value}{w:World}{g:ci w}{v:Value}
 (h:Calls P f args g.w λe w'=>e = .returned v/\Below g.w.heap.size g.w w'):Calls P f args g.w λe w''=>e = .returned v/\∃ g':ci w,w''=g'.w:=
 h.mono λ_ w' ⟨he,hm⟩=>⟨he,⟨w',g.2.trans (hm.mono g.2.size)⟩,rfl⟩
theorem Calls.grow_same{P:Program}{f:FuncId}{args:Array Value}{w:World}{g:ci w}{v:Value}
 (h:Calls P f args g.w λe w'=>e = .returned v/\g.w=w'):Calls P f args g.w λe w''=>e = .returned v/\∃ g':ci w,w''=g'.w:=
 h.mono λ_ _ ⟨he,hm⟩=>⟨he,g,hm.symm⟩
section
variable {P:Program}
theorem gi{id:Nat}{Q:Exit->Act->World->Prop}{a:Act}{w:World}{l:List Oper}(hm:P.follows .mixedOrders=true)(hB:Region.lexB .any l.toArray=true)
 (h:wpQuiet P l.toArray (λw'=>∃ g:ci w,w'=g.w) (λa'=>∀ w',(∃ g:ci w,w'=g.w)->Q .normal a' w') l a):(Code.region id l.toArray true).wp P Q a w:=
 wp_region_quiet (C:=λw'=>∃ g:ci w,w'=g.w) hm hB ⟨⟨_,(vQ w.heap.size w).drew⟩,rfl⟩ (by simpa using h)
end
theorem eh{W w1:World}(hb:Below W.heap.size W w1):(∀ b o,b<W.heap.size->w1.cell? ⟨b,o,none⟩=W.cell? ⟨b,o,none⟩)/\(∀ b o,b<W.heap.size->w1.frozen? ⟨b,o,none⟩=W.frozen? ⟨b,o,none⟩):=
 ⟨λb o h=>hb.cell (p:=⟨b,o,none⟩) h,λb o h=>hb.frozen (p:=⟨b,o,none⟩) h⟩
end D
namespace D
open Go.RowKit Go.Shelf
attribute [local go_sem] Oper.semAt_some
abbrev bB(l:List UInt8):Value:=.string ⟨l.toArray⟩
def bDY:Value->Nat
 | .string s=>s.size
 | _=>0
def VG(t:ByteArray)(J:List (List UInt8)->(Nat->Prop)->World->Prop)(S:Nat->Prop)(W:World)(v:Value)(wr:World):Prop:=
 ∃ (pre:List (List UInt8)) (r:ByteArray) (S1:Nat->Prop),v = .string r/\r.size<=140737488355328/\Np.bI t.data.toList=pre++(Np.be r.data.toList).reverse/\
   J pre S1 wr/\(∀ k,S1 k->k<wr.heap.size)/\W.heap.size<=wr.heap.size/\(∀ k,S1 k->S k\/W.heap.size<=k)
theorem Jy(t:ByteArray)(ht:t.size<=140737488355328)(n₀:Nat)(w:World) :
 EX prog 187 (λy=>#[.string t,y]) (λx:List UInt8=>#[bB x]) (Np.bI t.data.toList) n₀ w:=by
 intro l J Jx S W hW hJ J5 hY hS hS' h0;refine callsIn_of_wp func187 rfl trivial ?_ rfl;simp only[ntmps187,List.size_toArray,List.length_cons,List.length_nil,Nat.reduceAdd,Nat.reduceSub,Array.replicate_succ,Array.replicate_zero,List.push_toArray,List.append_toArray,List.nil_append,List.cons_append];gi_wp2_with fail
 ·have he:(t.toList == [46])=true:=by assumption
  have gG:t.data.toList = [46]:=by rw[<-dQ];simpa using he
  have hb:Np.bI t.data.toList = []:=by simp[Np.bI,gG]
  refine bodyPost_ret (results_none rfl _ _ _) rfl ?_;exact⟨⟨_,rfl⟩,.inl ⟨S,by rw[hb];exact h0,λk e=>.inl e⟩⟩
 ·have he:(t.toList == [46])=false:=by assumption
  have hne:¬ t.data.toList = [46]:=by rw[<-dQ];simpa using he
  have hb:Np.bI t.data.toList=(Np.be t.data.toList).reverse:=by simp[Np.bI,hne]
  have HB:=jq hb;clear hb;gi_loopw [4] (λv wr=>VG t J S W v wr) (λv _=>bDY v)
  case atStart=>exact⟨[],t,S,rfl,ht,by simpa using HB.out,h0,hS',bQ _,λ_ e=>.inl e⟩
  case round=>
   obtain⟨pre,r,S1,rfl,hr,mf,hj,ag,aB,bJ⟩:=hrel;have HP:=jq mf;clear mf;gi_wp2_with fail;refine⟨trivial,rfl,?_⟩;refine (callsIn_wide.2 (TR _ hr _ (by decide) (by decide) _)).mono ?_;rintro e w' ⟨q,hq,rfl,rfl⟩;rcases hq with ⟨rfl,dL⟩ | ⟨a,b,kS,xK,rfl⟩
   ·have cJ:Np.be r.data.toList = [r.data.toList]:=Np.ub dL;have hx:pre ++ [r.data.toList] <+: Np.bI t.data.toList:=by rw[HP.out,cJ];exact List.prefix_refl _
    obtain⟨fn,tmps,assign,body,hy,hR⟩:=hY pre r.data.toList S1 wr hx hj ag aB;have Ab:Sem.run prog (Instr.yield l #[.string r]) wr = .ok (.round l fn tmps assign body) wr:=hy;clear hy;have HX:=jq hx;clear hx;have HS:=jq cJ;clear cJ dL;gi_wp2_with fail;refine⟨rfl,hR.mono ?_⟩;rintro e W3 ⟨S3,cp,kl,ma,(⟨rfl,qo⟩ | ⟨rfl,qr⟩)⟩
    all_goals
     gi_wp2_with fail;refine bodyPost_ret (results_none rfl _ _ _) rfl ?_
    ·refine⟨⟨_,rfl⟩,.inl ⟨S3,?_,λk e=>?_⟩⟩
     ·rw[HP.out,HS.out];exact qo
     ·rcases kl k e with e | e
      ·exact bJ k e
      ·right;omega
    ·refine⟨⟨_,rfl⟩,.inr ⟨_,S3,HX.out,qr,λk e=>?_⟩⟩;rcases kl k e with e | e
     ·exact bJ k e
     ·right;omega
   ·have oE:a.length+1+b.length=r.size:=by rw[<-bO,kS];simp;omega
    have cJ:Np.be r.data.toList=Np.be a ++ [b]:=by rw[kS];exact (Np.yk a b).trans (by rw[Np.ub xK])
    have hx:pre ++ [b] <+: Np.bI t.data.toList:=by rw[HP.out,cJ];simp
    have Du:(r.extract (a.length+1) r.size).data.toList=b:=by rw[Fh,kS];simp
    have zZ:(r.extract 0 a.length).data.toList=a:=by rw[JK,kS];simp
    have Df:(r.extract 0 a.length).size=a.length:=by rw[<-bO,zZ]
    obtain⟨fn,tmps,assign,body,hy,hR⟩:=hY pre b S1 wr hx hj ag aB;have Ab:Sem.run prog (Instr.yield l #[.string (r.extract (a.length+1) r.size)]) wr = .ok (.round l fn tmps assign body) wr:=by
     have:bB b = .string (r.extract (a.length+1) r.size):=by show Value.string _=_;congr 1;exact iV (by rw[Du])
     simp only[this] at hy;exact hy
    clear hy;have HX:=jq hx;have HS:=jq cJ;have HA:=jq zZ;have EK:=jq Df;clear hx cJ Du zZ Df kS xK;have Cx:a.length<=140737488355328:=by omega
    have aIJ:a.length+1<=r.size:=by omega
    have H2:=jq oE;clear oE;gi_wp2_with fail;refine⟨rfl,hR.mono ?_⟩;rintro e W3 ⟨S3,cp,kl,ma,(⟨rfl,qo⟩ | ⟨rfl,qr⟩)⟩
    ·have SR:=cp.size;gi_wp2_with fail;go_roundw
     case rel=>
      refine⟨pre ++ [b],r.extract 0 a.length,S3,rfl,by rw[EK.out];exact Cx,?_,qo,ma,by omega,λk e=>?_⟩
      ·rw[HP.out,HS.out,HA.out];simp
      ·rcases kl k e with e | e
       ·exact bJ k e
       ·right;omega
     case measure=>show (r.extract 0 a.length).size<r.size;rw[EK.out];omega
    ·gi_wp2_with fail;refine bodyPost_ret (results_none rfl _ _ _) rfl ?_;refine⟨⟨_,rfl⟩,.inr ⟨_,S3,HX.out,qr,λk e=>?_⟩⟩;rcases kl k e with e | e
     ·exact bJ k e
     ·right;omega
end D
section
open Go.RowKit
structure ItStep(B:Nat)(S:Nat->Prop)(W W':World):Prop where
 os:W'.os=W.os
 tape:W'.tape=W.tape
 output:W'.output=W.output
 size:W.heap.size<=W'.heap.size
 keep:∀ k,k<W.heap.size->(k<B\/S k)->W'.heap[k]?=W.heap[k]?
structure RdStep(S:Nat->Prop)(W W':World):Prop where
 os:W'.os=W.os
 tape:W'.tape=W.tape
 output:W'.output=W.output
 size:W.heap.size<=W'.heap.size
 keep:∀ k,k<W.heap.size->¬ S k->W'.heap[k]?=W.heap[k]?
theorem ItStep.refl(B:Nat)(S:Nat->Prop)(W:World):ItStep B S W W:=⟨rfl,rfl,rfl,bQ _,λ_ _ _=>rfl⟩
theorem RdStep.refl(S:Nat->Prop)(W:World):RdStep S W W:=⟨rfl,rfl,rfl,bQ _,λ_ _ _=>rfl⟩
theorem ItStep.trans{B:Nat}{S:Nat->Prop}{A W C:World}(h:ItStep B S A W)(k:ItStep B S W C):ItStep B S A C:=
 ⟨k.os.trans h.os,k.tape.trans h.tape,k.output.trans h.output,yQ h.size k.size,λi hi hs=>(k.keep i (lqQ hi h.size) hs).trans (h.keep i hi hs)⟩
theorem RdStep.trans{S S':Nat->Prop}{A W C:World}(h:RdStep S A W)(k:RdStep S' W C)(hS:∀ i,S' i->S i\/A.heap.size<=i):RdStep S A C:=
 ⟨k.os.trans h.os,k.tape.trans h.tape,k.output.trans h.output,yQ h.size k.size,λi hi hs=>
  (k.keep i (lqQ hi h.size) (λe=>by rcases hS i e with e | e;exact hs e;omega)).trans (h.keep i hi hs)⟩
theorem RdStep.mono{S S':Nat->Prop}{A W:World}(h:RdStep S A W)(hS:∀ i,S i->S' i):RdStep S' A W:=
 ⟨h.os,h.tape,h.output,h.size,λi hi hs=>h.keep i hi (λe=>hs (hS i e))⟩
theorem ItStep.of_below{B:Nat}{S:Nat->Prop}{A W:World}(h:Below A.heap.size A W):ItStep B S A W:=
 ⟨h.os,h.tape,h.output,h.size,λk hk _=>h.block k hk⟩
theorem RdStep.of_below{S:Nat->Prop}{A W:World}(h:Below A.heap.size A W):RdStep S A W:=
 ⟨h.os,h.tape,h.output,h.size,λk hk _=>h.block k hk⟩
theorem RdStep.below{S:Nat->Prop}{A W:World}{n:Nat}(h:RdStep S A W)(hn:n<=A.heap.size)(hS:∀ k,S k->n<=k):Below n A W:=
 ⟨h.os,h.tape,h.output,h.size,λk hk=>h.keep k (by omega) (λe=>by have:=hS k e;omega)⟩
theorem RdStep.setCell{S:Nat->Prop}{A W:World}(h:RdStep S A W){p:Addr}(hp:S p.block\/A.heap.size<=p.block)(u:Value):RdStep S A (W.setCell p u):=
 ⟨h.os,h.tape,h.output,by simpa [World.setCell] using h.size,λk hk hs=>(wQ _ _ _ _ (by rintro rfl;rcases hp with hp | hp;exact hs hp;omega)).trans (h.keep k hk hs)⟩
theorem RdStep.alloc{S:Nat->Prop}{A W:World}(h:RdStep S A W)(o:Obj):RdStep S A (W.alloc o):=
 ⟨h.os,h.tape,h.output,yQ h.size (by simp),λk hk hs=>(Below.heap_alloc _ _ _ (lqQ hk h.size)).trans (h.keep k hk hs)⟩
theorem RdStep.drew{S:Nat->Prop}{A W:World}(h:RdStep S A W):RdStep S A W.drew:=⟨h.os,h.tape,h.output,h.size,h.keep⟩
theorem RdStep.grown{S:Nat->Prop}{A W C:World}{row:Option Nat}(h:RdStep S A W)(hg:W.grownBy C row)(hr:∀ k,row=some k->S k\/A.heap.size<=k):RdStep S A C:=
 ⟨hg.os.trans h.os,hg.tape.trans h.tape,hg.output.trans h.output,yQ h.size hg.size,λk hk hs=>
  (hg.block k (lqQ hk h.size) (λe=>by rcases hr k e.symm with e' | e';exact hs e';omega)).trans (h.keep k hk hs)⟩
def iy{β:Type}(B:Nat)(J:β->(Nat->Prop)->World->Prop):Prop:=∀ s S W W',J s S W->ItStep B S W W'->J s S W'
def ze{α:Type}(J Jx:List α->(Nat->Prop)->World->Prop)(pre:List α)(x:α)(S:Nat->Prop)(W:World)(e:Ending)(W':World):Prop:=
 ∃ S':Nat->Prop,RdStep S W W'/\(∀ k,S' k->S k\/W.heap.size<=k)/\(∀ k,S' k->k<W'.heap.size)/\
   ((e = .returned (.bool true)/\J (pre ++ [x]) S' W')\/(e = .returned (.bool false)/\Jx (pre ++ [x]) S' W'))
def EX{α:Type}(P:Program)(gf:FuncId)(mk:Value->Array Value)(encs:α->Array Value)(xs:List α)(n₀:Nat)(w:World):Prop:=
 ∀ (l:Nat) (J Jx:List α->(Nat->Prop)->World->Prop) (S:Nat->Prop) (W:World),Below n₀ w W->
   iy W.heap.size J->iy W.heap.size Jx->
   (∀ pre x S1 W1,pre ++ [x] <+: xs->J pre S1 W1->(∀ k,S1 k->k<W1.heap.size)->W.heap.size<=W1.heap.size->
     YieldAt Fence.wide 0 P l (encs x) W1 (ze J Jx pre x S1 W1))->
   (∀ k,S k->n₀<=k)->(∀ k,S k->k<W.heap.size)->J [] S W->
   CallsIn Fence.wide 0 P gf (mk (.func (.yield l) #[] #[])) W λe W'=>(∃ v,e = .returned v)/\
    ((∃ S',J xs S' W'/\(∀ k,S' k->S k\/W.heap.size<=k))\/(∃ pre S',pre <+: xs/\Jx pre S' W'/\(∀ k,S' k->S k\/W.heap.size<=k)))
def lR{α:Type}(I:List α->(Nat->Prop)->World->Prop)(Ix:Code->List α->(Nat->Prop)->World->Prop)(xs:List α)(S:Nat->Prop)(W:World):Exit->Act->World->Prop
 | .normal,_,W'=>∃ S',RdStep S W W'/\(∀ k,S' k->S k\/W.heap.size<=k)/\(∀ k,S' k->k<W'.heap.size)/\I xs S' W'
 | .ret,_,W'=>∃ S',RdStep S W W'/\(∀ k,S' k->S k\/W.heap.size<=k)/\(∀ k,S' k->k<W'.heap.size)/\Ix .ret xs S' W'
 | .exit id,_,W'=>∃ S',RdStep S W W'/\(∀ k,S' k->S k\/W.heap.size<=k)/\(∀ k,S' k->k<W'.heap.size)/\Ix (.exit id) xs S' W'
 | _,_,_=>False
theorem nO{B:Nat}{S:Nat->Prop}{W:World}{l:Nat}(o:Obj)(hl:B<=l)(hS:¬ S l):ItStep B S W (W.putObj l o):=
 ⟨rfl,rfl,rfl,by simp,λk _ hk=>zQ (by rintro rfl;rcases hk with hk | hk;omega;exact hS hk)⟩
theorem x7{B:Nat}{S:Nat->Prop}{W:World}(o:Obj):ItStep B S W (W.alloc o):=
 ⟨rfl,rfl,rfl,by simp,λk hk _=>Below.heap_alloc _ _ _ hk⟩
theorem ItStep.weaken{B B':Nat}{S S':Nat->Prop}{W W':World}(h:ItStep B S W W')(hB:B'<=B)(hS:∀ k,S' k->S k):ItStep B' S' W W':=
 ⟨h.os,h.tape,h.output,h.size,λk hk hs=>h.keep k hk (hs.imp (λe=>by omega) (hS k))⟩
theorem lS{B:Nat}{S:Nat->Prop}{W W':World}{b:Nat}{t:TypeId}{v:Value}(h:Boxed W b t v)(hs:ItStep B S W W')(hb:S b):Boxed W' b t v:=(hs.keep b h.lt (.inr hb)).trans h
theorem uI{n B:Nat}{S:Nat->Prop}{w W W':World}(h:Below n w W)(hs:ItStep B S W W')(hB:n<=B)(hn:n<=w.heap.size):Below n w W':=
 ⟨hs.os.trans h.os,hs.tape.trans h.tape,hs.output.trans h.output,yQ h.size hs.size,λk hk=>(hs.keep k (by have:=h.size;omega) (.inl (by omega))).trans (h.block k hk)⟩
theorem uJ{n:Nat}{W W':World}{b:Nat}{t:TypeId}{v:Value}(h:Boxed W b t v)(hs:Below n W W')(hb:b<n):Boxed W' b t v:=(hs.block b hb).trans h
theorem fC{W:World}{b:Nat}{t:TypeId}{v:Value}(h:Boxed W b t v){p:Addr}(hp:b≠p.block)(u:Value):Boxed (W.setCell p u) b t v:=(wQ W p u b hp).trans h
theorem zl{P:Program}{fn:Func}{R:Ending->World->Prop}{tmps:Array Value}{w:World}{v:Value}(qM:(results fn tmps).run P w = .ok v w)(hR:R (.returned v) w) :
 bodyPostM Fence.wide 0 P fn R .ret { tmps:=tmps,defers:=[] } w:=⟨_,qM,hR⟩
theorem pb{P:Program}{fn:Func}{R:Ending->World->Prop}{tmps:Array Value}{W:World}{D:Nat}{v:Value}(hK:W.heap[D]?=some (.deferred (some [])))
 (qM:(results fn tmps).run P (W.putObj D (.deferred none)) = .ok v (W.putObj D (.deferred none))) (hR:R (.returned v) (W.putObj D (.deferred none))) :
 bodyPostM Fence.wide 0 P fn R .ret { tmps:=tmps,defers:=[{ target:=.collected D,args:=#[] }] } W:=
 ⟨by simp,.inl ⟨_,_,rfl,run_takeDeferred hK,_,qM,hR⟩⟩
theorem o7{n D:Nat}{w W:World}(h:Below n w W)(hD:n<=D)(o:Obj):Below n w (W.putObj D o):=
 ⟨h.os,h.tape,h.output,by simpa using h.size,λk hk=>(zQ (by omega)).trans (h.block k hk)⟩
theorem th{W:World}{b D:Nat}{t:TypeId}{v:Value}(h:Boxed W b t v)(hD:b≠D)(o:Obj):Boxed (W.putObj D o) b t v:=(zQ hD).trans h
theorem adX{n:Nat}{W W':World}{b:Nat}{t:TypeId}{v:Value}(h:Boxed W b t v)(hs:Below n W W')(hb:b<n:=by omega):Boxed W' b t v:=uJ h hs hb
end
section
open Go.RowKit Go.Shelf
attribute [local go_sem] Oper.semAt_some
abbrev bB(l:List UInt8):Value:=.string ⟨l.toArray⟩
end
namespace D
open Go.RowKit Go.Shelf
attribute [local go_sem] Oper.semAt_some
def eR(pre:List (List UInt8)):Bool:=pre.getLast? == some [42]
def E2(w:World)(xs:List (List UInt8))(pre:List (List UInt8))(S:Nat->Prop)(W:World):Prop:=
 (∀ k,S k↔k=w.heap.size\/k=w.heap.size+1\/k=w.heap.size+1+1)/\Boxed W w.heap.size 4 (.bool false)/\Boxed W (w.heap.size+1) 3 (.int .i64 pre.length)/\Boxed W (w.heap.size+1+1) 4 (.bool (eR pre))/\
 (pre.length<=8/\∀ rest,xs=pre++rest->Np.fW xs 0 false=Np.fW rest pre.length (eR pre))/\Below w.heap.size w W
def E3(w:World)(xs:List (List UInt8))(c:Code)(_:List (List UInt8))(S:Nat->Prop)(W:World):Prop:=
 c = .ret/\(∀ k,S k↔k=w.heap.size\/k=w.heap.size+1\/k=w.heap.size+1+1)/\Boxed W w.heap.size 4 (.bool false)/\Np.fW xs 0 false=false/\Below w.heap.size w W
theorem Ve(w:World)(xs:List (List UInt8))(B:Nat)(hB:w.heap.size<=B):iy B (E2 w xs):=by
 rintro s S W W' ⟨hS,h1,h2,h3,h4,h5⟩ aH;exact⟨hS,lS h1 aH ((hS _).2 (.inl rfl)),lS h2 aH ((hS _).2 (.inr (.inl rfl))),lS h3 aH ((hS _).2 (.inr (.inr rfl))),h4,uI h5 aH hB (bQ _)⟩
theorem bHX(w:World)(xs:List (List UInt8))(B:Nat)(hB:w.heap.size<=B)(c:Code):iy B (E3 w xs c):=by
 rintro s S W W' ⟨hc,hS,h1,h4,h5⟩ aH;exact⟨hc,hS,lS h1 aH ((hS _).2 (.inl rfl)),h4,uI h5 aH hB (bQ _)⟩
theorem Mq{w:World}{xs pre:List (List UInt8)}{S:Nat->Prop}{W W3:World}{a:Act}(hS:∀ k,S k↔k=w.heap.size\/k=w.heap.size+1\/k=w.heap.size+1+1)
 (hr:RdStep S W W3) (ag:∀ k,S k->k<W.heap.size) (c0:Boxed W3 w.heap.size 4 (.bool false)) (hB:Below w.heap.size w W3) (hg:Np.fW xs 0 false=false) :
 lR (E2 w xs) (E3 w xs) pre S W .ret a (W3.setCell ⟨w.heap.size,0,none⟩ (.bool false)):=
 ⟨S,hr.setCell (.inl ((hS _).2 (.inl rfl))) _,λ_ e=>.inl e,λk e=>by have:=ag k e;have:=hr.size;simp[World.setCell];omega,rfl,hS,c0.set _,hg,hB.setCell (bQ _) _⟩
theorem Vf{w:World}{xs pre rest:List (List UInt8)}{x:List UInt8}{S:Nat->Prop}{W W3:World}{a:Act}(hS:∀ k,S k↔k=w.heap.size\/k=w.heap.size+1\/k=w.heap.size+1+1)
 (hr:RdStep S W W3) (ag:∀ k,S k->k<W.heap.size) (c0:Boxed W3 w.heap.size 4 (.bool false)) (c1:Boxed W3 (w.heap.size+1) 3 (.int .i64 (pre.length+1))) (c2:Boxed W3 (w.heap.size+1+1) 4 (.bool (x == [42])))
 (hB:Below w.heap.size w W3) (mU:pre ++ [x]++rest=xs) (hl:pre.length+1<=8) (hg:Np.fW xs 0 false=Np.fW rest (pre.length+1) (x == [42])) :
 lR (E2 w xs) (E3 w xs) (pre ++ [x]) S W .normal a W3:=by
 have hw:eR (pre ++ [x])=(x == [42]):=by simp[eR]
 refine⟨S,hr,λ_ e=>.inl e,λk e=>by have:=ag k e;have:=hr.size;omega,hS,c0,by simpa using c1,by rw[hw];exact c2,⟨by simpa using hl,λr h=>?_⟩,hB⟩
 have:r=rest:=List.append_cancel_left (h.symm.trans mU.symm)
 rw[hg,this,hw];simp
theorem valid_any(t:ByteArray)(ht:t.size<=140737488355328)(w:World) :
 Calls prog 118 #[.string t] w λe w'=>e = .returned (.bool (Np.ai t.data.toList))/\Below w.heap.size w w':=by
 refine (callsIn_wide (n:=0)).1 ?_;refine callsIn_of_wp_marks func118 rfl trivial ?_ rfl;simp only[ntmps118,List.size_toArray,List.length_cons,List.length_nil,Nat.reduceAdd,Nat.reduceSub,Array.replicate_succ,Array.replicate_zero,List.push_toArray,List.append_toArray,List.nil_append,List.cons_append];gi_wp2_with fail
 ·have he:(t.toList == [46])=true:=by assumption
  have gG:t.data.toList = [46]:=by rw[<-dQ];simpa using he
  exact zl (v:=.bool true) (by simp[results,results118,go_sem]) ⟨by rw[Np.ai,QbQ gG],(vQ _ _).alloc (bQ _) _⟩
 ·have he:(t.toList == [46])=false:=by assumption
  have gG:¬ t.data.toList = [46]:=by rw[<-dQ];simpa using he
  have hl:60<(t.size:Int):=by assumption
  exact zl (v:=.bool false) (by simp[results,results118,go_sem]) ⟨by rw[Np.ai,Qc gG,QbQ (by rw[bO];omega)],(vQ _ _).alloc (bQ _) _⟩
 ·have he:(t.toList == [46])=false:=by assumption
  have gG:¬ t.data.toList = [46]:=by rw[<-dQ];simpa using he
  have hl:(t.size:Int)<=60:=by assumption
  have hv:Np.ai t.data.toList=Np.fW (Np.bI t.data.toList) 0 false:=by
   rw[Np.ai,Qc gG,Qc (by rw[bO];omega),Np.bI,Qc gG]
  have HV:=jq hv;clear hv;have b0:=Boxed.new w 4 (.bool false);have b1:=Boxed.new (w.alloc (.cells #[.bool false] 4)) 3 (.int .i64 0);have b2:=Boxed.new ((w.alloc (.cells #[.bool false] 4)).alloc (.cells #[.int .i64 0] 3)) 4 (.bool false);simp only[World.size_alloc] at b1 b2;refine ME (n₀:=w.heap.size) (w0:=w) (first:=#[.string t]) (captured:=#[]) (gf:=187) rfl (enters_of func187 (by kernel_rfl) rfl) (mk:=λy=>#[.string t,y]) (λ_=>rfl)
   (Jy t ht _ w) ((((vQ _ w).alloc (bQ _) _).alloc (by simp) _).alloc (by simp;omega) _) (by simp;omega) (λ_=>rfl) (E2 w (Np.bI t.data.toList)) (E3 w (Np.bI t.data.toList))
   (Ve _ _ _ (by simp;omega)) (λc=>bHX _ _ _ (by simp;omega) c)
   (λk=>k=w.heap.size\/k=w.heap.size+1\/k=w.heap.size+1+1) (by intro k h;omega) (by intro k h;simp;omega)
   ⟨λ_=>Iff.rfl,(b0.alloc _).alloc _,b1.alloc _,b2,⟨by simp,λrest h=>by rw[h];rfl⟩,(((vQ _ w).alloc (bQ _) _).alloc (by simp) _).alloc (by simp;omega) _⟩ ?round ?done ?stop
  case round=>
   rintro l0 pre x S W bW hI fG;gi_wp2;refine⟨S,RdStep.refl _ _,λk e=>.inl e,fG,?_⟩;intro l W₂ aH;obtain⟨hS,c0,c1,c2,hg,hB⟩:=Ve w _ _ (by simp;omega) pre S W W₂ hI aH;have c0c:=c0.cell;have c1c:=c1.cell;have c2c:=c2.cell;have c0f:=c0.frozen;have c1f:=c1.frozen;have c2f:=c2.frozen;have hlen:=hg.1;have hx:x∈Np.bI t.data.toList:=bW.subset (by simp);have vx:x.length<=60:=by have:=Np.B2 hx;rw[bO] at this;omega
   have pr:(⟨x.toArray⟩:ByteArray).size<=140737488355328:=by rw[<-bO];simp;omega
   obtain⟨rest,mU⟩:=bW;have uW:Np.fW (Np.bI t.data.toList) 0 false=Np.fW (x::rest) pre.length (eR pre):=hg.2 _ (by rw[<-mU];simp);have HR:=jq mU;have HG:=jq uW;have CA:∀ (b:Nat) (u:Value),w.heap.size<=b->Below w.heap.size w (W₂.setCell ⟨b,0,none⟩ u):=λb u hb=>hB.setCell (p:=⟨b,0,none⟩) hb u;have nz:∀ k,S k->k<W₂.heap.size:=λk e=>lqQ (fG k e) aH.size;clear mU uW hg hx;gi_wp2_with (refine⟨trivial,rfl,?_⟩;gi_at_call 188;refine (CallsIn.inRound l (callsIn_wide.2 (Dy _ pr _))).mono ?_;rintro e w' ⟨rfl,rfl⟩)
   ·exact Mq hS (RdStep.setCell (RdStep.refl S W₂) (p:=⟨w.heap.size+1,0,none⟩) (.inl ((hS _).2 (.inr (.inl rfl)))) _) nz (fC c0 (p:=⟨w.heap.size+1,0,none⟩) (by simp) _) (CA _ _ (by omega))
     (by rw[HG.out];have:eR pre=true:=by assumption
         simp[Np.fW,this])
   ·exact Mq hS (RdStep.setCell (RdStep.refl S W₂) (p:=⟨w.heap.size+1,0,none⟩) (.inl ((hS _).2 (.inr (.inl rfl)))) _) nz (fC c0 (p:=⟨w.heap.size+1,0,none⟩) (by simp) _) (CA _ _ (by omega))
     (by rw[HG.out];have:8<pre.length+1:=by omega
         simp[Np.fW,this])
   ·have fM:x = [42]:=by assumption
    have e:(x == [42])=true:=by simp[fM]
    have kZ:(pre.length:Int)+1<=8:=by assumption
    have h1:¬ eR pre=true:=by assumption
    have h2:¬ 8<pre.length+1:=by omega
    refine⟨trivial,?_⟩;gi_wp2;exact Vf hS (RdStep.setCell (RdStep.setCell (RdStep.refl S W₂) (p:=⟨w.heap.size+1,0,none⟩) (.inl ((hS _).2 (.inr (.inl rfl)))) _) (p:=⟨w.heap.size+1+1,0,none⟩) (.inl ((hS _).2 (.inr (.inr rfl)))) _) nz
     (fC (fC c0 (p:=⟨w.heap.size+1,0,none⟩) (by simp) _) (p:=⟨w.heap.size+1+1,0,none⟩) (by simp<;>omega) _)
     (fC (c1.set _) (p:=⟨w.heap.size+1+1,0,none⟩) (by simp<;>omega) _) (by rw[e];exact (fC c2 (p:=⟨w.heap.size+1,0,none⟩) (by simp) _).set _)
     ((CA _ _ (by omega)).setCell (p:=⟨w.heap.size+1+1,0,none⟩) (by simp;omega) _) HR.out (by omega) (by rw[HG.out];simp[Np.fW,h1,h2,fM])
   ·have hl:(!x == [42])=true/\(!Np.cD x)=true:=by assumption
    have fM:¬ x = [42]:=by assumption
    exact Mq hS (RdStep.setCell (RdStep.setCell (RdStep.refl S W₂) (p:=⟨w.heap.size+1,0,none⟩) (.inl ((hS _).2 (.inr (.inl rfl)))) _) (p:=⟨w.heap.size+1+1,0,none⟩) (.inl ((hS _).2 (.inr (.inr rfl)))) _) nz
     (fC (fC c0 (p:=⟨w.heap.size+1,0,none⟩) (by simp) _) (p:=⟨w.heap.size+1+1,0,none⟩) (by simp<;>omega) _)
     ((CA _ _ (by omega)).setCell (p:=⟨w.heap.size+1+1,0,none⟩) (by simp;omega) _)
     (by rw[HG.out];have h2:Np.cD x=false:=by simpa using hl.2
         simp[Np.fW,fM,h2])
   ·have hl:(!x == [42])=false\/(!Np.cD x)=false:=by assumption
    have fM:¬ x = [42]:=by assumption
    have e:(x == [42])=false:=by simp[fM]
    have kZ:(pre.length:Int)+1<=8:=by assumption
    have h1:¬ eR pre=true:=by assumption
    have h2:¬ 8<pre.length+1:=by omega
    have h3:Np.cD x=true:=by simpa [e] using hl
    exact Vf hS (RdStep.setCell (RdStep.setCell (RdStep.refl S W₂) (p:=⟨w.heap.size+1,0,none⟩) (.inl ((hS _).2 (.inr (.inl rfl)))) _) (p:=⟨w.heap.size+1+1,0,none⟩) (.inl ((hS _).2 (.inr (.inr rfl)))) _) nz
     (fC (fC c0 (p:=⟨w.heap.size+1,0,none⟩) (by simp) _) (p:=⟨w.heap.size+1+1,0,none⟩) (by simp<;>omega) _)
     (fC (c1.set _) (p:=⟨w.heap.size+1+1,0,none⟩) (by simp<;>omega) _) ((fC c2 (p:=⟨w.heap.size+1,0,none⟩) (by simp) _).set _)
     ((CA _ _ (by omega)).setCell (p:=⟨w.heap.size+1+1,0,none⟩) (by simp;omega) _) HR.out (by omega) (by rw[HG.out];simp[Np.fW,h1,h2,fM,h3,e])
  case done=>
   rintro D S W hD gq bJ ⟨hS,c0,c1,c2,hg,hB⟩ hK;have c0c:=c0.cell;have c0f:=c0.frozen;have xD:Np.fW (Np.bI t.data.toList) 0 false=true:=by rw[hg.2 [] (by simp)];rfl
   have Fq:w.heap.size≠D:=λe=>gq ((hS _).2 (.inl e.symm));clear hg;have HE:=jq xD;clear xD;gi_wp2;have hK':(W.setCell ⟨w.heap.size,0,none⟩ (.bool true)).heap[D]?=some (.deferred (some [])):=(wQ _ _ _ _ (by simpa using Fq.symm)).trans hK;have c5:=(th (c0.set (.bool true)) Fq (.deferred none)).cell;exact pb hK' (v:=.bool true) (by simp[results,results118,go_sem,c5]) ⟨by rw[HV.out,HE.out],o7 (hB.setCell (bQ _) _) (by simp at hD;omega) _⟩
  case stop=>
   rintro D c pre S W hD gq bJ mf ⟨rfl,hS,c0,hg,hB⟩ hK;have Fq:w.heap.size≠D:=λe=>gq ((hS _).2 (.inl e.symm));have HE:=jq hg;clear hg;gi_wp2;have c5:=(th c0 Fq (.deferred none)).cell;exact pb hK (v:=.bool false) (by simp[results,results118,go_sem,c5]) ⟨by rw[HV.out,HE.out],o7 hB (by simp at hD;omega) _⟩
theorem nameValid_any(t:ByteArray)(ht:t.size<=140737488355328)(w:World) :
 Calls prog 48 #[.string t] w λe w'=>e = .returned (.bool (Np.ai t.data.toList))/\Below w.heap.size w w':=by
 go_enter func48,ntmps48;go_wp2_with (go_at_call 118;refine (valid_any _ ht _).mono ?_;rintro e w' ⟨rfl,hb⟩);go_ret;exact⟨rfl,hb⟩
end D
section
open Go.RowKit
theorem valid_any(t:ByteArray)(ht:t.size<=140737488355328)(w:World) :
 Calls prog 118 #[.string t] w (aCX w.heap.size w (.bool (Np.ai t.data.toList))):=
 (D.valid_any t ht w).mono λ_ _ h=>⟨h.1,h.2.low⟩
theorem nameValid_any(t:ByteArray)(ht:t.size<=140737488355328)(w:World) :
 Calls prog 48 #[.string t] w (aCX w.heap.size w (.bool (Np.ai t.data.toList))):=
 (D.nameValid_any t ht w).mono λ_ _ h=>⟨h.1,h.2.low⟩
theorem MC(x lo hi:Int)(w:World) :
 Calls prog 85 #[.int .i64 x,.int .i64 lo,.int .i64 hi] w (aCY w (.bool (decide (lo<=x)&&decide (x<=hi)))):=by
 by_cases h1:lo<=x
 all_goals
  go_enter func85,ntmps85;go_wp2;go_ret;exact⟨aj (by simp;omega),rfl⟩
theorem LD(s:ByteArray)(h:1<=s.size):((s.extract 0 1).toList == [42])=Np.dC s.data.toList:=by
 rw[dQ,JK];unfold Np.dC;have hl:1<=s.data.toList.length:=by rw[bO];exact h
 cases hd:s.data.toList with
 | nil=>rw[hd] at hl;simp at hl
 | cons a r=>rw[Bool.eq_iff_iff];simp
theorem TD(s:ByteArray)(hs:s.size<=140737488355328)(w:World) :
 Calls prog 86 #[.string s] w (aCY w (.bool (Np.dC s.data.toList))):=by
 have h1:1<=s.size->((s.extract 0 1).toList == [42])=Np.dC s.data.toList:=LD s;have h2:s.size<1->Np.dC s.data.toList=false:=λh=>by
  have:s.data.toList = []:=rQ (by rw[bO];omega)
  rw[this];rfl
 have H1:=jq h1;have H2:=jq h2;clear h1 h2;go_enter func86,ntmps86;go_wp2
 ·go_ret;exact⟨aj (H1.out (by omega)),rfl⟩
 ·go_ret;exact⟨aj (H2.out (by omega)).symm,rfl⟩
theorem anX(s t:ByteArray)(w:World) :
 Calls prog 152 #[.string s,.string t] w (aCY w (.int .i64 (Np.dp s.data.toList t.data.toList))):=by
 go_enter func152,ntmps152;go_wp2
 ·have h:Op.bytesLess s.toList t.toList=true:=by assumption
  simp only[dQ] at h;go_ret;exact⟨jM (by simp[Np.dp,h]),rfl⟩
 ·have h:Op.bytesLess s.toList t.toList=false:=by assumption
  have h2:(!s.toList == t.toList)=true:=by assumption
  simp only[dQ] at h h2;have h3:¬ s.data.toList=t.data.toList:=by simpa using h2
  go_ret;exact⟨jM (by rw[Np.dp,Qc (by simp[h]),Qc h3]),rfl⟩
 ·have h:Op.bytesLess s.toList t.toList=false:=by assumption
  have h2:(!s.toList == t.toList)=false:=by assumption
  simp only[dQ] at h h2;have h3:s.data.toList=t.data.toList:=by simpa using h2
  go_ret;exact⟨jM (by rw[Np.dp,Qc (by simp[h]),QbQ h3]),rfl⟩
theorem JB(s t:Int)(w:World) :
 Calls prog 153 #[.int .i64 s,.int .i64 t] w (aCY w (.int .i64 (Np.eD s t))):=by
 go_enter func153,ntmps153;go_wp2
 ·go_ret;exact⟨jM (by rw[Np.eD,QbQ ‹_›]),rfl⟩
 ·go_ret;exact⟨jM (by rw[Np.eD,Qc (by omega),QbQ ‹_›]),rfl⟩
 ·go_ret;exact⟨jM (by rw[Np.eD,Qc (by omega),Qc (by omega)]),rfl⟩
theorem Fl(c:UInt8):Np.pd c=decide ((97<=(c.toNat:Int)/\(c.toNat:Int)<=122)\/(48<=(c.toNat:Int)/\(c.toNat:Int)<=57)\/(c.toNat:Int)=32):=by
 have h:=pE c 32 (by decide);unfold Np.pd Np.sw Np.qW;rw[show (32:UInt8)=UInt8.ofNat 32 from rfl,h,Bool.eq_iff_iff];simp[UInt8.le_iff_toNat_le];omega
theorem Tv(s:ByteArray)(h:(s.size:Int)<1):Np.mi s.data.toList=false:=by
 have:¬ 1<=s.size:=by omega
 simp[Np.mi,this]
theorem Tw(s:ByteArray)(h:40<(s.size:Int)):Np.mi s.data.toList=false:=by
 have:¬ s.size<=40:=by omega
 simp[Np.mi,this]
theorem Tx(s:ByteArray)(h0:0<s.size)(h:(s[0].toNat:Int)=32):Np.mi s.data.toList=false:=by
 have e:=pE s[0] 32 (by decide);rw[uQ (by simpa using h)] at e;have e2:s[0]=(32:UInt8):=by simpa using e
 simp[Np.mi,CL s h0,e2]
theorem Ty(s:ByteArray)(h0:s.size - 1<s.size)(h:(s[s.size - 1].toNat:Int)=32):Np.mi s.data.toList=false:=by
 have e:=pE s[s.size - 1] 32 (by decide);rw[uQ (by simpa using h)] at e;have e2:s[s.size - 1]=(32:UInt8):=by simpa using e
 simp[Np.mi,Gy s h0,e2]
theorem Tz(s:ByteArray)(k:Nat)(hk:k<s.size)(h:Np.pd s[k]=false):Np.mi s.data.toList=false:=by
 have:s.data.toList.all Np.pd=false:=by
  rw[List.all_eq_false];exact⟨s[k],by rw[<-cQ.1 (zq s k hk) |>.2];exact List.getElem_mem _,by simp[h]⟩
 simp[Np.mi,this]
theorem TA(s:ByteArray)(h1:1<=s.size)(h2:s.size<=40)(h3:¬ (s[0].toNat:Int)=32)(h4:¬ (s[s.size - 1].toNat:Int)=32)(h5:s.data.toList.all Np.pd=true):Np.mi s.data.toList=true:=by
 have e:=pE s[0] 32 (by decide);have e':=pE s[s.size - 1] 32 (by decide);rw[tQ (by simpa using h3)] at e;rw[tQ (by simpa using h4)] at e';have e2:¬ s[0]=(32:UInt8):=by simpa using e
 have e3:¬ s[s.size - 1]=(32:UInt8):=by simpa using e'
 simp[Np.mi,Gy s (by omega),CL s (by omega),e2,e3,h5,h1,h2]
theorem a4K(s:ByteArray)(hs:s.size<=140737488355328)(w:World) :
 Calls prog 150 #[.string s] w (aCY w (.bool (Np.mi s.data.toList))):=by
 ·go_enter func150,ntmps150;go_wp2
  rotate_right
  ·go_ret;exact⟨aj (Tv s ‹_›).symm,rfl⟩
  ·go_ret;exact⟨aj (Tw s ‹_›).symm,rfl⟩
  ·go_ret;exact⟨aj (Tx s ‹_› ‹_›).symm,rfl⟩
  ·have h:((s[s.size - 1].toNat:Int) == 32)=true:=by assumption
   go_ret;exact⟨aj (Ty s (by omega) (by simpa using h)).symm,rfl⟩
  ·have h2:(s.size:Int)<=40:=by assumption
   have h3:¬ (s[0].toNat:Int)=32:=by assumption
   have h4:((s[s.size - 1].toNat:Int) == 32)=false:=by assumption
   have H4:=jq h4;clear h4;have H3:=jq h3;go_loop [24] (λi=>∃ k:Nat,k<=s.size/\i = .int .i64 k/\(s.data.toList.take k).all Np.pd=true) (λi=>s.size - (intOf i).toNat)
   case atStart=>exact⟨0,jQ _,rfl,rfl⟩
   case round=>
    obtain⟨k,hk,rfl,ha⟩:=hrel;have HA:=jq ha;clear ha;by_cases ag:k<s.size
    ·have hb:=Ay s[k];by_cases hf:(97<=(s[k].toNat:Int)/\(s[k].toNat:Int)<=122)\/(48<=(s[k].toNat:Int)/\(s[k].toNat:Int)<=57)\/(s[k].toNat:Int)=32
     ·have hl:Np.pd s[k]=true:=by rw[Fl];exact uQ hf
      have HL:=jq hl;clear hl;go_wp2
      all_goals first
       | (go_round
          case rel=>exact⟨k+1,by omega,by go_num,Ju s k ag _ HA.out HL.out⟩
          case measure=>simp[intOf]<;>omega)
       | (exfalso
          have hne:((s[k].toNat:Int) != 32)=true:=by assumption
          have C3:=bne_iff_ne.1 hne;omega)
     ·have hl:Np.pd s[k]=false:=by rw[Fl];exact tQ hf
      have HL:=jq hl;clear hl;go_wp2
      all_goals first
       | (go_ret;exact⟨aj (Tz s k ag HL.out).symm,rfl⟩)
       | (exfalso;omega)
       | (exfalso
          have hne:((s[k].toNat:Int) != 32)=false:=by assumption
          have C3:(s[k].toNat:Int)=32:=by simpa using hne
          omega)
    ·go_wp2;go_ret;exact⟨aj (TA s (by omega) (by omega) H3.out (by simpa using H4.out) (by have:=HA.out;rwa [GY s k (by omega)] at this)).symm,rfl⟩
end
namespace Np
def cls(c:UInt8):Nat:=
 if c=32\/c=9\/c=10 then 1 else if c=35 then 2 else if sw c||qW c||c == 42 then 3 else if c=45 then 4 else if c=46 then 5 else if c=34 then 6
 else if c=123\/c=125\/c=59\/c=44\/c=61\/c=64 then 7 else 0
def vC(c:UInt8):Bool:=cls c == 3||cls c == 4||cls c == 5
def T5(c:UInt8):Bool:=c != 10
def LC(c:UInt8):Bool:=c != 34&&c != 10
def bkY(r:List UInt8):Nat:=if 1<=(r.takeWhile LC).length/\r[(r.takeWhile LC).length]?=some 34 then (r.takeWhile LC).length+2 else 0
def Vq:List UInt8->Nat
 | []=>0
 | c::r=>match cls c with
   | 1=>1
   | 2=>((c::r).takeWhile T5).length
   | 3=>((c::r).takeWhile vC).length
   | 5=>if ((c::r).takeWhile vC).length=1 then 1 else 0
   | 6=>bkY r
   | 7=>1
   | _=>0
structure Tok where
 kind:Int
 text:List UInt8
 n:Int
 pos:Int
deriving DecidableEq
def Tok.zero:Tok:=⟨0,[],0,0⟩
def dec(s:List UInt8):Nat:=s.foldl (λa c=>10 * a+(c.toNat - 48)) 0
def DS(k:Nat)(s:List UInt8):Int×Tok:=
 if k=7 then (0,⟨3,s,0,0⟩)
 else if k=6 then (if 42<s.length then (3,Tok.zero) else (0,⟨1,s,0,0⟩))
 else if s.all qW=false then (if 60<s.length then (3,Tok.zero) else (0,⟨1,s,0,0⟩))
 else if 1<s.length/\s.head?=some 48 then (10,Tok.zero)
 else if 1000000000<dec s then (3,Tok.zero) else (0,⟨2,[],dec s,0⟩)
def pB:List UInt8->Nat->Nat->List Tok×Int×Nat
 | [],_,_=>([],0,0)
 | c::r,p,k=>
  let n:=Vq (c::r)
  if cls c=1\/cls c=2 then pB (r.drop (n - 1)) (p+n) k
  else if n=0 then ([],10,p)
  else if k=2000 then ([],2,p)
  else if (DS (cls c) ((c::r).take n)).1≠0 then ([],(DS (cls c) ((c::r).take n)).1,p)
  else
   let x:=pB (r.drop (n - 1)) (p+n) (k+1)
   ({ (DS (cls c) ((c::r).take n)).2 with pos:=p } :: x.1,x.2)
termination_by l=>l.length
decreasing_by all_goals (simp;omega)
def lex(s:List UInt8):List Tok×Int×Nat:=
 if 8000<s.length then ([],2,0) else if (pB s 0 0).2.1=0 then ((pB s 0 0).1,0,0) else ([],(pB s 0 0).2)

end Np
section
open Go.RowKit
def orI:List Int->Int
 | []=>0
 | x::xs=>if x≠0 then x else orI xs
theorem bhK(xs:List Int)(h:∀ x∈xs,x=0):orI xs=0:=by
 induction xs with
 | nil=>rfl
 | cons x r ih=>rw[orI,Qc (by simp[h x (by simp)])];exact ih (λy hy=>h y (by simp[hy]))
theorem bhJ(xs:List Int)(k:Nat)(hk:k<xs.length)(h:∀ x∈xs.take k,x=0)(hx:xs[k]≠0):orI xs=xs[k]:=by
 induction xs generalizing k with
 | nil=>simp at hk
 | cons x r ih=>
  cases k with
  | zero=>simp at hx;simp[orI,hx]
  | succ k=>
   have h0:x=0:=h x (by simp);rw[orI,Qc (by simp[h0])];simpa using ih k (by simpa using hk) (λy hy=>h y (by simp[hy])) (by simpa using hx)
theorem anK(b c:Nat)(xs:List Int)(hl:xs.length<=1000)(w:World)(hc:∀ i x,xs[i]?=some x->w.cell? ⟨b,i,none⟩=some (.int .i64 x)) :
 Calls prog 151 #[.slice (some ⟨b,0,none⟩) xs.length c] w (aCY w (.int .i64 (orI xs))):=by
 have HC:=jq hc;clear hc;go_enter func151,ntmps151;go_wp2;go_loop [8] (λi=>∃ k:Nat,k<=xs.length/\i = .int .i64 k/\Hid (∀ x∈xs.take k,x=0)) (λi=>xs.length - (intOf i).toNat)
 case atStart=>exact⟨0,jQ _,rfl,jq (by simp)⟩
 case round=>
  obtain⟨k,hk,rfl,HA⟩:=hrel;by_cases ag:k<xs.length
  ·have hcell:w.cell? ⟨b,k,none⟩=some (.int .i64 xs[k]):=HC.out k _ (aQ ag);go_wp2
   ·have hne:(xs[k] != 0)=true:=by assumption
    go_ret;exact⟨jM (bhJ xs k ag HA.out (by simpa using hne)).symm,rfl⟩
   ·have hne:(xs[k] != 0)=false:=by assumption
    go_round
    case rel=>
     refine⟨k+1,by omega,by go_num,jq ?_⟩;rw[fQ ag];intro x hx;rcases List.mem_append.1 hx with h | h
     ·exact HA.out x h
     ·simp at h;subst h;simpa using hne
    case measure=>simp[intOf]<;>omega
  ·go_wp2;go_ret;exact⟨jM (bhK xs (by have:=HA.out;rwa [kQ (by omega)] at this)).symm,rfl⟩
theorem anJ(a b:Np.Datum):Np.rH a b=orI [Np.dp a.text b.text,Np.eD a.n b.n,Np.eD a.m b.m]:=by
 simp only[Np.rH,orI];split
 ·rfl
 ·split
  ·rfl
  ·split
   ·rfl
   ·rename_i h;simpa using h
theorem aoJ(s t:ByteArray)(n1 m1 n2 m2:Int)(w:World) :
 Calls prog 88 #[.agg #[.string s,.int .i64 n1,.int .i64 m1],.agg #[.string t,.int .i64 n2,.int .i64 m2]] w
  λe w'=>e = .returned (.int .i64 (Np.rH ⟨s.data.toList,n1,m1⟩ ⟨t.data.toList,n2,m2⟩))/\Below w.heap.size w w':=by
 rw[anJ];go_enter func88,ntmps88;go_wp2;refine Vz 15 (by kernel_rfl) (by kernel_rfl) ?_;simp only[List.take_succ_cons,List.take_zero,List.drop_succ_cons,List.drop_zero]
 iterate 4 still_step
 still_call (Calls.still_same (anX _ _ _))
 iterate 4 still_step
 still_call (Calls.still_same (JB _ _ _))
 iterate 4 still_step
 still_call (Calls.still_same (JB _ _ _))
 refine wpStill_nil ?_;go_wp2_with fail;refine (anK (w.heap.size+1+1) 3 [Np.dp s.data.toList t.data.toList,Np.eD n1 n2,Np.eD m1 m2] (by simp) _ ?_).mono ?_
 ·intro i x hx
  match i,hx with
  | 0,hx=>simp at hx;subst hx;go_simp
  | 1,hx=>simp at hx;subst hx;go_simp
  | 2,hx=>simp at hx;subst hx;go_simp
  | i+3,hx=>simp at hx
 ·rintro e w' ⟨rfl,rfl⟩;go_wp2_with fail;go_ret;exact⟨rfl,((((vQ _ w).alloc (bQ _) _).alloc (by simp) _).alloc (by simp;omega) _).drew⟩
def jr(r:Np.Rule):Array Value:=#[.int .i64 r.text,.int .i64 r.leastN,.int .i64 r.mostN,.int .i64 r.leastM,.int .i64 r.mostM,.bool r.even,.bool r.single,.bool r.wild]
theorem bHY(k ln mn lm mm:Int)(ev si wi:Bool)(s:ByteArray)(hs:s.size<=140737488355328)(n m:Int)(w:World) :
 Calls prog 87 #[.agg #[.int .i64 k,.int .i64 ln,.int .i64 mn,.int .i64 lm,.int .i64 mm,.bool ev,.bool si,.bool wi],.agg #[.string s,.int .i64 n,.int .i64 m]] w
  λe w'=>e = .returned (.bool (Np.ml ⟨k,ln,mn,lm,mm,ev,si,wi⟩ ⟨s.data.toList,n,m⟩))/\Below w.heap.size w w':=by
 go_enter func87,ntmps87;go_wp2_with (first
  | (go_at_call 85;refine (MC _ _ _ _).mono ?_;rintro e w' ⟨rfl,rfl⟩)
  | (go_at_call 48;refine (nameValid_any _ hs _).mono ?_;rintro e w' ⟨rfl,hb⟩;obtain⟨hc,hf⟩:=eh hb)
  | (go_at_call 86;refine (TD _ hs _).mono ?_;rintro e w' ⟨rfl,rfl⟩)
  | (go_at_call 150;refine (a4K _ hs _).mono ?_;rintro e w' ⟨rfl,rfl⟩))
 all_goals
  go_ret;go_light;refine⟨aj ?_,?_⟩
  ·simp_all [Np.ml,Np.DW,dQ]<;>(intros;omega)
  ·first
    | exact ((vQ _ w).alloc (bQ _) _).alloc (by simp) _
    | exact (((vQ _ w).alloc (bQ _) _).alloc (by simp) _).trans (hb.mono (by simp;omega))
end
namespace Np
structure IsGap(g:List UInt8):Prop where
 skip:∀ x p k,pB (g++x) p k=pB x (p+g.length) k
 stop:∃ c r,g=c::r/\vC c=false
 rest:∀ p k,pB (g.drop (g.takeWhile T5).length) p k=([],0,0)
def VH(y:List UInt8):Prop:=y = []\/y.head?=some 32
def Fb(t:Tok):Tok:={ t with pos:=0 }
def ly(x:List UInt8)(t:Tok):Prop:=∃ c r,x=c::r/\¬ (cls c=1\/cls c=2)/\(∀ y,VH y->Vq (x++y)=x.length)/\(DS (cls c) x).1=0/\Fb (DS (cls c) x).2=Fb t
structure Sig where
 zone:List UInt8
 key:Int
 alg:Int
 frm:Int
 til:Int
 sum:Int
deriving DecidableEq
structure Signed where
 set:DSet
 sigs:List Sig
deriving DecidableEq
structure Span where
 frm:Int
 til:Int
deriving DecidableEq
def bxZ(g x:Sig):Bool:=(x.frm != g.frm)||(x.til != g.til)
def bkQ:List Sig->Bool
 | []=>true
 | g::r=>!(decide (g.frm<0)||decide (g.til<g.frm)||decide (20000000<g.til))&&!((g::r).any (bxZ g))
def plain(s:Signed):Bool:=bi s.set&&decide (s.sigs.length<=6)&&bkQ s.sigs
def Mm(length drift life:Int):Int:=length - max life 1 - 3 * drift+2
def Ml(begin stop length drift life:Int):Prop:=0<=drift/\drift<=1000/\1<=stop/\stop<=10000000/\drift<=begin/\begin<=stop - 1/\1<=length/\length<=10000000/\0<=life/\life<=100000
instance (b s l d f:Int):Decidable (Ml b s l d f):=by unfold Ml;infer_instance
def U8(b s k:Int):List Int:=(List.range ((s - b+k - 1) / k).toNat).map λ(i:Nat)=>b+i * k
def bFK(b s l d f:Int):Int:=if Ml b s l d f then (if Mm l d f<1 then 32 else if 400<(U8 b s (Mm l d f)).length then 2 else 0) else 1
def times(b s l d f:Int):List Int:=if bFK b s l d f=0 then U8 b s (Mm l d f) else []
structure Zone where
 apex:List UInt8
 sets:List Signed
deriving DecidableEq
def oi:List (List UInt8)->List (List UInt8)->Int
 | [],_=>-1
 | _::_,[]=>1
 | x::xs,y::ys=>if dp x y≠0 then dp x y else oi xs ys
def br(a b:List UInt8):Int:=if a=b then 0 else oi (bI a) (bI b)
def ic(a b:DSet):Int:=if a.name≠b.name then br a.name b.name else eD a.type b.type
def aW(s z:List UInt8):Bool:=s == z||z == [46]||(decide (z.length<s.length)&&(s.drop (s.length - z.length) == z)&&(s[s.length - z.length - 1]? == some 46))
def jg(apex:List UInt8):Option DSet->List Signed->Bool
 | _,[]=>true
 | p,x::r=>(ai x.set.name&&aW x.set.name apex)&&bi x.set&&(match p with | none=>true | some q=>decide (ic q x.set<0))&&jg apex (some x.set) r
def gh(z:Zone):Bool:=ai z.apex&&!dC z.apex&&jg z.apex none z.sets
theorem QS:∀ (xs:List (List UInt8)) (n:Nat) (w:Bool),fW xs n w=true->∀ x∈xs,x = [42]\/cD x=true:=by
 intro xs
 induction xs with
 | nil=>intro _ _ _ x h;cases h
 | cons y xs ih=>
  intro n w h x hx;rw[fW] at h;split at h
  ·cases h
  ·split at h
   ·rename_i hy;rcases List.mem_cons.1 hx with rfl | hx
    ·exact .inl hy
    ·exact ih _ _ h x hx
   ·split at h
    ·rename_i hy;rcases List.mem_cons.1 hx with rfl | hx
     ·exact .inr hy
     ·exact ih _ _ h x hx
    ·cases h
theorem yu{s:DSet}(h:bi s=true):ai s.name=true/\1<=s.type/\s.type<=8/\0<=s.life/\s.life<=100000/\1<=s.data.length/\s.data.length<=8/\jy (du s.type) none s.data=true:=by
 unfold bi at h;simp only[Bool.and_eq_true,Qa] at h;obtain⟨⟨⟨⟨⟨⟨h1,h2,h3⟩,h4,h5⟩,h6,h7⟩,_⟩,_⟩,h8⟩:=h;exact⟨h1,h2,h3,h4,h5,h6,h7,h8⟩
theorem Fm{apex:List UInt8} : ∀ {l:List Signed} {p:Option DSet},jg apex p l=true->∀ x∈l,bi x.set=true
 | [],_,_,x,h=>by cases h
 | y::l,p,h,x,hx=>by
   simp only[jg,Bool.and_eq_true] at h;rcases List.mem_cons.1 hx with rfl | hx
   ·exact h.1.1.2
   ·exact Fm h.2 x hx
end Np
end Go.Proofs.YtadhigmjilijcaaGreatDoor
namespace Go.Proofs
open YtadhigmjilijcaaGreatDoor Tryz
open Go.Shelf
def Tryz.lays106_ren:Go.Shelf.Ren:=⟨fun | 106=>287 | 213=>305 | 265=>315 | n=>n,fun | 9=>9 | 3=>3 | n=>n,fun | n=>n⟩
theorem Tryz.lays106:Go.Proofs.Lays.n106 Tryz.prog Tryz.lays106_ren:={
 mixed:=by kernel_rfl
 f106:=func287.trans (adZ)
 f213:=func305.trans (adZ)
 f265:=func315.trans (adZ)
 t3:=underlying3
 a3:=isAgg3
 z3:=Tryz.sizeOf3
 v3:=Tryz.zeroValue3
 t9:=underlying9
 a9:=isAgg9
 z9:=Tryz.sizeOf9
 v9:=Tryz.zeroValue9 }
open Go.RowKit in
theorem Tryz.strings_Compare(a b:ByteArray)(w:World) :
 Calls Tryz.prog 287 #[.string a,.string b] w λe w'=>e = .returned (.int .i64 (Lib.compareBytes a.data.toList b.data.toList))/\w'=w:=Any.strings_Compare Tryz.lays106 a b w
end Go.Proofs
namespace Go.Proofs.YtadhigmjilijcaaGreatDoor
open Go.Proofs.Tryz
section
open Go.RowKit
def cr(w:World)(B:Nat):Prop:=0<B/\∀ k:Nat,k<9->fm w 0 (k * 8) (jr (Np.du k)).toList
theorem cr.keep{w w':World}{B:Nat}(h:cr w B)(hb:Below B w w'):cr w' B:=⟨h.1,λk hk=>(h.2 k hk).keep hb h.1⟩
theorem cr.more{w:World}{B B':Nat}(h:cr w B)(hB:B<=B'):cr w B':=⟨lqQ h.1 hB,h.2⟩
def cm(_:World)(_:Nat)(e:List Value)(d:Np.Datum):Prop:=∃ s:ByteArray,s.data.toList=d.text/\s.size<=140737488355328/\e = [.string s,.int .i64 d.n,.int .i64 d.m]
theorem bM:dR cm:=λ_ _ _ _ _ h _=>h
theorem bY:ef cm:=λ_ _ _ _ _ h _=>h
theorem akY{w w':World}(h:w'=w):Below w.heap.size w w':=by rw[h];exact vQ _ _
theorem Mr(k ln mn lm mm:Int)(ev si wi:Bool)(s:ByteArray)(hs:s.size<=140737488355328)(n m:Int)(w:World)(t:Bool)(ht:Np.ml ⟨k,ln,mn,lm,mm,ev,si,wi⟩ ⟨s.data.toList,n,m⟩=t) :
 Calls prog 87 #[.agg #[.int .i64 k,.int .i64 ln,.int .i64 mn,.int .i64 lm,.int .i64 mm,.bool ev,.bool si,.bool wi],.agg #[.string s,.int .i64 n,.int .i64 m]] w
  λe w'=>e = .returned (.bool t)/\Below w.heap.size w w':=by
 subst ht;exact bHY k ln mn lm mm ev si wi s hs n m w
def agK(w1:World)(o:Obj)(r:Np.Rule)(ds:List Np.Datum)(i:Value)(wr:World):Prop:=
 ∃ j:Nat,j<=ds.length/\i = .int .i64 j/\Below (w1.alloc o).heap.size (w1.alloc o) wr/\Np.jy r none ds=Np.jy r (ds.take j).getLast? (ds.drop j)
theorem sH(s:ByteArray)(hs:s.size<=140737488355328)(ty life:Int)(v:Value)(ds:List Np.Datum)(w:World)(hR:cr w w.heap.size)(hd:SlR cm 3 w w.heap.size v ds) :
 Calls prog 33 #[.agg #[.string s,.int .i64 ty,.int .i64 life,v]] w
  λe w'=>e = .returned (.bool (Np.bi ⟨s.data.toList,ty,life,ds⟩))/\Below w.heap.size w w':=by
 have HR:=jq hR;have HD:=jq hd;obtain⟨A,c,rfl,aR,cP,cZ⟩:=hd;clear hR cZ;have HF:Hid (∀ t:Bool,t=Np.bi ⟨s.data.toList,ty,life,ds⟩->(.bool t:Value) = .bool (Np.bi ⟨s.data.toList,ty,life,ds⟩)):=λt ht=>by rw[ht]
 go_enter func33,ntmps33;go_wp2_with fail;refine (nameValid_any _ hs _).mono ?_;rintro e w1 ⟨rfl,hb⟩;have cL:Below w.heap.size w w1:=((vQ _ w).alloc (bQ _) _).trans (hb.mono (by simp));have aB:w.heap.size+1<=w1.heap.size:=by have:=hb.size;simpa using this
 have eH:w.heap.size<w1.heap.size:=by omega
 have c0:w1.cell? ⟨w.heap.size,0,none⟩=some (.string s):=by rw[hb.cell (by simp)];go_simp
 have c1:w1.cell? ⟨w.heap.size,1,none⟩=some (.int .i64 ty):=by rw[hb.cell (by simp)];go_simp
 have c2:w1.cell? ⟨w.heap.size,2,none⟩=some (.int .i64 life):=by rw[hb.cell (by simp)];go_simp
 have c3:w1.cell? ⟨w.heap.size,3,none⟩=some (.slice A ds.length c):=by rw[hb.cell (by simp)];go_simp
 have HB:=jq hb;clear hb;by_cases bm:1<=ty/\ty<=8
 ·obtain⟨k,rfl⟩:=Int.eq_ofNat_of_zero_le (by omega:0<=ty);have hk9:k<9:=by omega
  have pm:=(HR.out.keep cL).2 k hk9;have r0:w1.cell? ⟨0,k * 8,none⟩=some (.int .i64 (Np.du k).text):=pm 0 _ rfl;have r1:w1.cell? ⟨0,k * 8+1,none⟩=some (.int .i64 (Np.du k).leastN):=pm 1 _ rfl;have r2:w1.cell? ⟨0,k * 8+2,none⟩=some (.int .i64 (Np.du k).mostN):=pm 2 _ rfl;have r3:w1.cell? ⟨0,k * 8+3,none⟩=some (.int .i64 (Np.du k).leastM):=pm 3 _ rfl;have r4:w1.cell? ⟨0,k * 8+4,none⟩=some (.int .i64 (Np.du k).mostM):=pm 4 _ rfl;have r5:w1.cell? ⟨0,k * 8+5,none⟩=some (.bool (Np.du k).even):=pm 5 _ rfl;have r6:w1.cell? ⟨0,k * 8+6,none⟩=some (.bool (Np.du k).single):=pm 6 _ rfl;have r7:w1.cell? ⟨0,k * 8+7,none⟩=some (.bool (Np.du k).wild):=pm 7 _ rfl;clear pm;go_wp2_with (first
   | (go_at_call 85;refine (MC _ _ _ _).mono ?_;rintro e w' ⟨rfl,rfl⟩)
   | (go_at_call 86;refine (TD _ hs _).mono ?_;rintro e w' ⟨rfl,rfl⟩))
  all_goals first
   | (go_ret
      go_light;refine⟨aj ?_,by first | exact cL | exact cL.alloc (by omega) _⟩;simp_all [Np.bi]<;>(intros;omega))
   | skip
  all_goals
   have hv:Np.bi ⟨s.data.toList,k,life,ds⟩=Np.jy (Np.du k) none ds:=by
    go_light;simp_all [Np.bi]<;>(intros;omega)
  rotate_left 3
  all_goals
   have HV:=jq hv;clear hv HF;go_loopw [52] (λi wr=>agK w1 (Obj.cells (jr (Np.du k)) 131) (Np.du k) ds i wr) (λi _=>ds.length - (intOf i).toNat)
   case atStart=>
    refine⟨0,jQ _,rfl,akY ?_,rfl⟩;go_light;simp_all [jr]
   case round=>
    obtain⟨j,hj,rfl,aT,hg⟩:=hrel;have HG:=jq hg;clear hg;by_cases ag:j<ds.length
    ·have gJ:=aT.size;simp only[World.size_alloc] at gJ;have mI:Below w.heap.size w wr:=(cL.alloc (by omega) _).trans (aT.mono (by simp;omega));have fw:w.heap.size<wr.heap.size:=by omega
     have ah:w1.heap.size<wr.heap.size:=by omega
     have d3:wr.cell? ⟨w.heap.size,3,none⟩=some (.slice A ds.length c):=by rw[aT.cell (by simp;omega)];rw[World.cell?_alloc_lt _ _ _ (by simpa using eH)];exact c3
     have q0:wr.cell? ⟨w1.heap.size,0,none⟩=some (.int .i64 (Np.du k).text):=by rw[aT.cell (by simp)];exact World.cell?_alloc_new w1 _ _ _
     have q1:wr.cell? ⟨w1.heap.size,1,none⟩=some (.int .i64 (Np.du k).leastN):=by rw[aT.cell (by simp)];exact World.cell?_alloc_new w1 _ _ _
     have q2:wr.cell? ⟨w1.heap.size,2,none⟩=some (.int .i64 (Np.du k).mostN):=by rw[aT.cell (by simp)];exact World.cell?_alloc_new w1 _ _ _
     have q3:wr.cell? ⟨w1.heap.size,3,none⟩=some (.int .i64 (Np.du k).leastM):=by rw[aT.cell (by simp)];exact World.cell?_alloc_new w1 _ _ _
     have q4:wr.cell? ⟨w1.heap.size,4,none⟩=some (.int .i64 (Np.du k).mostM):=by rw[aT.cell (by simp)];exact World.cell?_alloc_new w1 _ _ _
     have q5:wr.cell? ⟨w1.heap.size,5,none⟩=some (.bool (Np.du k).even):=by rw[aT.cell (by simp)];exact World.cell?_alloc_new w1 _ _ _
     have q6:wr.cell? ⟨w1.heap.size,6,none⟩=some (.bool (Np.du k).single):=by rw[aT.cell (by simp)];exact World.cell?_alloc_new w1 _ _ _
     have q7:wr.cell? ⟨w1.heap.size,7,none⟩=some (.bool (Np.du k).wild):=by rw[aT.cell (by simp)];exact World.cell?_alloc_new w1 _ _ _
     obtain⟨A',c',hA',_,_,dS⟩:=HD.out.keep bM mI
     cases hA'
     obtain⟨b,o,e,rfl,cX,_,hce,sd,qP,tS,rfl⟩:=dS j _ (aQ ag);have e0:wr.cell? ⟨b,o+j * 3,none⟩=some (.string sd):=hce 0 _ rfl;have e1:wr.cell? ⟨b,o+j * 3+1,none⟩=some (.int .i64 ds[j].n):=hce 1 _ rfl;have e2:wr.cell? ⟨b,o+j * 3+2,none⟩=some (.int .i64 ds[j].m):=hce 2 _ rfl;have gO:b<wr.heap.size:=by omega
     have bN:=jq aT;have aD:=jq mI;have Ic:=jq dS;have uz:=jq qP;clear hce aT mI dS qP c0 c1 c2 c3 r0 r1 r2 r3 r4 r5 r6 r7;go_wp2_with fail;have p0:=World.cell?_alloc_new wr #[.string sd,.int .i64 ds[j].n,.int .i64 ds[j].m] 75 0;have p1:=World.cell?_alloc_new wr #[.string sd,.int .i64 ds[j].n,.int .i64 ds[j].m] 75 1;have p2:=World.cell?_alloc_new wr #[.string sd,.int .i64 ds[j].n,.int .i64 ds[j].m] 75 2;have keep:∀ b o,b<wr.heap.size->(wr.alloc (.cells #[.string sd,.int .i64 ds[j].n,.int .i64 ds[j].m] 75)).cell? ⟨b,o,none⟩=wr.cell? ⟨b,o,none⟩:=λb o h=>World.cell?_alloc_lt _ _ _ h;have xU:(wr.alloc (.cells #[.string sd,.int .i64 ds[j].n,.int .i64 ds[j].m] 75)).heap.size=wr.heap.size+1:=World.size_alloc _ _;have eG:Below wr.heap.size wr (wr.alloc (.cells #[.string sd,.int .i64 ds[j].n,.int .i64 ds[j].m] 75)):=blAl;generalize wr.alloc (.cells #[.string sd,.int .i64 ds[j].n,.int .i64 ds[j].m] 75)=wx at p0 p1 p2 keep xU eG |-;have gK:w.heap.size<wx.heap.size:=by omega
     have fM:w1.heap.size<wx.heap.size:=by omega
     have zY:wr.heap.size<wx.heap.size:=by omega
     have sr:b<wx.heap.size:=by omega
     have qC:∀ (g:ci wx) (p:Addr),p.block<wx.heap.size->g.w.cell? p=wx.cell? p:=λg p h=>g.cell p h;have g8:=jq eG;clear eG xU;have CG:(⟨sd.data.toList,ds[j].n,ds[j].m⟩:Np.Datum)=ds[j]:=by rw[uz.out]
     have sP:=jq CG;clear CG;by_cases tU:Np.ml (Np.du k) ⟨sd.data.toList,ds[j].n,ds[j].m⟩=true
     ·have lL:=jq tU;clear tU;by_cases rS:j=0
      ·subst rS;refine adK ?_
       repeat (go_big_quiet_step ((go_at_call 87;exact Calls.grow_of (Mr _ _ _ _ _ _ _ _ _ tS _ _ _ true lL.out))))
       refine wpQuiet_nil ?_;rintro _ ⟨g,rfl⟩;go_wp2_with fail;go_roundw
       case rel=>
        go_light;have h1:=Np.QP (r:=Np.du k) (aQ ag) (by rw[<-sP.out];exact lL.out);exact⟨1,ag,by go_num,bN.out.trans ((g8.out.trans (g.below.abQ)).mono (by simp;omega)),by rw[<-h1];exact HG.out⟩
       case measure=>simp[intOf]<;>omega
      ·obtain⟨i,rfl⟩:∃ i,j=i+1:=⟨j - 1,by omega⟩
       try (exfalso;omega)
       all_goals
        obtain⟨b',o',e',qi,FH,_,tw,sq,jm,aYK,rfl⟩:=Ic.out i _ (aQ (by omega))
        cases qi
        have f0:wr.cell? ⟨b,o+i * 3,none⟩=some (.string sq):=tw 0 _ rfl;have f1:wr.cell? ⟨b,o+i * 3+1,none⟩=some (.int .i64 (ds[i]'(by omega)).n):=tw 1 _ rfl;have f2:wr.cell? ⟨b,o+i * 3+2,none⟩=some (.int .i64 (ds[i]'(by omega)).m):=tw 2 _ rfl;have CF:(⟨sq.data.toList,(ds[i]'(by omega)).n,(ds[i]'(by omega)).m⟩:Np.Datum)=ds[i]'(by omega):=by rw[jm]
        have H9:=jq CF;clear tw jm CF;refine adK ?_
        repeat (go_big_quiet_step (first
         | (go_at_call 87;exact Calls.grow_of (Mr _ _ _ _ _ _ _ _ _ tS _ _ _ true lL.out))
         | (go_at_call 88;exact Calls.grow_of (aoJ _ _ _ _ _ _ _))))
        refine wpQuiet_nil ?_;rintro _ ⟨g,rfl⟩;have h1:=Np.QQ (r:=Np.du k) (aQ (by omega:i<ds.length)) (aQ ag) (by rw[<-sP.out];exact lL.out);rw[<-sP.out,<-H9.out] at h1;have H1:=jq h1;clear h1;go_wp2_with fail
        ·go_ret;refine⟨aj ?_,aD.out.trans ((g8.out.trans (g.below.abQ)).abQ)⟩;rw[HV.out,HG.out,H1.out,Qc (by omega)]
        ·go_roundw
         case rel=>
          go_light;exact⟨i+1+1,ag,by go_num,bN.out.trans ((g8.out.trans (g.below.abQ)).mono (by simp;omega)),by rw[HG.out,H1.out,QbQ (by omega)]⟩
         case measure=>simp[intOf]<;>omega
     ·have Dl:Np.ml (Np.du k) ⟨sd.data.toList,ds[j].n,ds[j].m⟩=false:=by simpa using tU
      have lL:=jq Dl;clear tU Dl;refine adK ?_
      repeat (go_big_quiet_step ((go_at_call 87;exact Calls.grow_of (Mr _ _ _ _ _ _ _ _ _ tS _ _ _ false lL.out))))
      refine wpQuiet_nil ?_;rintro _ ⟨g,rfl⟩;go_wp2_with fail;go_ret;refine⟨aj ?_,aD.out.trans ((g8.out.trans (g.below.abQ)).abQ)⟩;rw[HV.out,HG.out,Np.QO (aQ ag) (by rw[<-sP.out];exact lL.out)]
    ·go_wp2_with fail;go_ret;refine⟨aj ?_,(cL.alloc (by omega) _).trans (aT.mono (by simp;omega))⟩;rw[HV.out,HG.out,List.drop_eq_nil_of_le (by omega)];rfl
 ·have hv:Np.bi ⟨s.data.toList,ty,life,ds⟩=false:=by
   simp only[Np.bi]
   have:(decide (1<=ty)&&decide (ty<=8))=false:=by simp;omega
   rw[this];simp
  have HV:=jq hv;clear hv;have S8:(decide (1<=ty)&&decide (ty<=8))=false:=by simp;omega
  go_wp2_with (first
   | (go_at_call 85;refine (MC _ _ _ _).mono ?_;rintro e w' ⟨rfl,rfl⟩))
  all_goals
   go_ret;exact⟨aj HV.out.symm,cL⟩
end
namespace D
open Go.RowKit Go.Shelf
attribute [local go_sem] Oper.semAt_some
def td(W:World)(lm lr:Nat)(rem:List (List UInt8)):Prop:=
 ∃ (more:Bool) (r:ByteArray),Boxed W lm 4 (.bool more)/\Boxed W lr 9 (.string r)/\r.size<=140737488355328/\rem=if more then (Np.be r.data.toList).reverse else []
theorem td.it{B:Nat}{S:Nat->Prop}{W W':World}{lm lr:Nat}{rem:List (List UInt8)}(h:td W lm lr rem)(hs:ItStep B S W W')(h1:S lm)(h2:S lr):td W' lm lr rem:=by
 obtain⟨more,r,b1,b2,h3,h4⟩:=h;exact⟨more,r,lS b1 hs h1,lS b2 hs h2,h3,h4⟩
def Jp(W:World)(lm lr:Nat)(rem:List (List UInt8))(e:Ending)(W':World):Prop:=
 (rem = []/\e = .returned (.tuple #[.string ⟨#[]⟩,.bool false])/\W'=W)\/
 ∃ x rest,rem=x::rest/\e = .returned (.tuple #[bB x,.bool true])/\td W' lm lr rest/\∃ b u,(b=lm\/b=lr)/\W'=W.setCell ⟨b,0,none⟩ u
theorem bfJ(lm lr:Nat)(hne:lm≠lr)(rem:List (List UInt8))(w:World)(h:td w lm lr rem) :
 Calls prog 304 #[.pointer (some ⟨lm,0,none⟩),.pointer (some ⟨lr,0,none⟩)] w (Jp w lm lr rem):=by
 obtain⟨more,r,b1,b2,h3,h4⟩:=h;have HR:=jq h4;clear h4;have c1:=b1.cell;have c2:=b2.cell;have f1:=b1.frozen;have f2:=b2.frozen
 cases more with
 | false=>
  go_enter func304,ntmps304;go_wp2_with fail;refine bodyPost_ret (v:=.tuple #[.string ⟨#[]⟩,.bool false]) (by simp[results,results304,go_sem]) rfl ?_;exact .inl ⟨HR.out,rfl,rfl⟩
 | true=>
  go_enter func304,ntmps304;go_wp2_with fail;refine (TR _ h3 _ (by decide) (by decide) _).mono ?_;rintro e w' ⟨q,hq,rfl,rfl⟩;rcases hq with ⟨rfl,dL⟩ | ⟨a,b,kS,xK,rfl⟩
  ·have cJ:Np.be r.data.toList = [r.data.toList]:=Np.ub dL;have HS:=jq cJ;clear cJ dL;go_wp2_with fail;refine bodyPost_ret (v:=.tuple #[.string r,.bool true]) (by simp[results,results304,go_sem]) rfl ?_;refine .inr ⟨r.data.toList,[],by rw[HR.out,QbQ trivial,HS.out];rfl,rfl,⟨false,r,b1.set _,fC b2 (by simpa using hne.symm) _,h3,rfl⟩,lm,_,.inl rfl,rfl⟩
  ·have oE:a.length+1+b.length=r.size:=by rw[<-bO,kS];simp;omega
   have cJ:Np.be r.data.toList=Np.be a ++ [b]:=by rw[kS];exact (Np.yk a b).trans (by rw[Np.ub xK])
   have Du:(r.extract (a.length+1) r.size).data.toList=b:=by rw[Fh,kS];simp
   have zZ:(r.extract 0 a.length).data.toList=a:=by rw[JK,kS];simp
   have BN:Hid (r.extract (a.length+1) r.size=⟨b.toArray⟩):=jq (iV (by rw[Du]));have OF:=jq zZ;have HS:=jq cJ;clear cJ Du zZ kS xK;have Cx:a.length<=140737488355328:=by omega
   have aIJ:a.length+1<=r.size:=by omega
   have b0X:(a.length:Int)+1<=(r.size:Int):=by omega
   clear oE;go_wp2_with fail;refine bodyPost_ret (v:=.tuple #[.string (r.extract (a.length+1) r.size),.bool true]) (by simp[results,results304,go_sem]) rfl ?_;refine .inr ⟨b,(Np.be a).reverse,by rw[HR.out,QbQ trivial,HS.out];simp,by rw[BN.out],⟨true,r.extract 0 a.length,fC b1 (by simpa using hne) _,b2.set _,by rw[<-bO,OF.out];omega,by rw[OF.out];rfl⟩,lr,_,.inr rfl,rfl⟩
theorem bkZ(t:ByteArray)(ht:t.size<=140737488355328)(w:World) :
 Calls prog 286 #[.string t] w λe w'=>e = .returned (.func (.func 304) #[] #[.pointer (some ⟨w.heap.size+1,0,none⟩),.pointer (some ⟨w.heap.size,0,none⟩)])/\
  td w' (w.heap.size+1) w.heap.size (Np.bI t.data.toList)/\Below w.heap.size w w'/\w'.heap.size=w.heap.size+2:=by
 have b0:=Boxed.new w 9 (.string t);have hb:∀ o o',Below w.heap.size w ((w.alloc o).alloc o'):=λo o'=>((vQ _ w).alloc (bQ _) _).alloc (by simp) _;by_cases he:t.data.toList = [46]
 ·have gG:(t.toList == [46])=true:=by rw[dQ,he];rfl
  have b1:=Boxed.new (w.alloc (.cells #[.string t] 9)) 4 (.bool false);rw[World.size_alloc] at b1;have HB:Hid (Np.bI t.data.toList = []):=jq (by simp[Np.bI,he]);clear he;go_enter func286,ntmps286;go_wp2_with fail;go_ret;exact⟨rfl,⟨false,t,b1,b0.alloc _,ht,by rw[HB.out];rfl⟩,hb _ _,by simp⟩
 ·have gG:(t.toList == [46])=false:=by rw[dQ];simpa using he
  have b1:=Boxed.new (w.alloc (.cells #[.string t] 9)) 4 (.bool true);rw[World.size_alloc] at b1;have HB:Hid (Np.bI t.data.toList=(Np.be t.data.toList).reverse):=jq (by simp[Np.bI,he]);clear he;go_enter func286,ntmps286;go_wp2_with fail;go_ret;exact⟨rfl,⟨true,t,b1,b0.alloc _,ht,by rw[HB.out];rfl⟩,hb _ _,by simp⟩
theorem anY:∀ a b:List UInt8,Lib.compareBytes a b=Np.dp a b:=by
 intro a
 induction a with
 | nil=>
  intro b
  cases b with
  | nil=>rfl
  | cons y b=>simp[Lib.compareBytes,Np.dp,Op.bytesLess]
 | cons x a ih=>
  intro b
  cases b with
  | nil=>simp[Lib.compareBytes,Np.dp,Op.bytesLess]
  | cons y b=>
   rw[Lib.compareBytes,ih b];by_cases h1:x<y
   ·simp[Np.dp,Op.bytesLess,h1]
   ·by_cases h2:y<x
    ·have h3:¬ x=y:=λe=>by subst e;exact h1 h2
     simp[Np.dp,Op.bytesLess,h1,h2,h3]
    ·have h3:x=y:=by
      apply UInt8.toNat_inj.1;simp only[UInt8.lt_iff_toNat_lt] at h1 h2;omega
     subst h3;simp[Np.dp,Op.bytesLess,h1]
theorem bDX(s t:ByteArray)(w:World) :
 Calls prog 287 #[.string s,.string t] w λe w'=>e = .returned (.int .i64 (Np.dp s.data.toList t.data.toList))/\w=w':=
 (Tryz.strings_Compare s t w).mono λe w' ⟨he,hw⟩=>⟨by rw[he,anY],hw.symm⟩
def G7(g lm lr l8:Nat)(S:Nat->Prop):Prop:=∀ k,S k↔k=g\/k=g+1\/k=lm\/k=lr\/k=l8
def G6(w:World)(g lm lr l8:Nat)(fv:Value)(m n:List UInt8)(pre:List (List UInt8))(S:Nat->Prop)(W:World):Prop:=
 G7 g lm lr l8 S/\Boxed W g 3 (.int .i64 0)/\Boxed W (g+1) 34 (.int .i64 0)/\Boxed W l8 264 fv/\
 (∃ rem,td W lm lr rem/\∀ rest,Np.bI m=pre++rest->Np.oi (Np.bI m) (Np.bI n)=Np.oi rest rem)/\Below w.heap.size w W
def G8(w:World)(g lm lr l8:Nat)(m n:List UInt8)(c:Code)(_:List (List UInt8))(S:Nat->Prop)(W:World):Prop:=
 c = .ret/\G7 g lm lr l8 S/\Boxed W g 3 (.int .i64 (Np.oi (Np.bI m) (Np.bI n)))/\Boxed W (g+1) 34 (.int .i64 0)/\Below w.heap.size w W
theorem P7(w:World)(g lm lr l8:Nat)(fv:Value)(m n:List UInt8)(B:Nat)(hB:w.heap.size<=B):iy B (G6 w g lm lr l8 fv m n):=by
 rintro s S W W' ⟨hS,h1,h2,h3,⟨rem,h4,h5⟩,h6⟩ aH;exact⟨hS,lS h1 aH ((hS _).2 (.inl rfl)),lS h2 aH ((hS _).2 (.inr (.inl rfl))),lS h3 aH ((hS _).2 (.inr (.inr (.inr (.inr rfl))))),
  ⟨rem,h4.it aH ((hS _).2 (.inr (.inr (.inl rfl)))) ((hS _).2 (.inr (.inr (.inr (.inl rfl))))),h5⟩,uI h6 aH hB (bQ _)⟩
theorem aoQ(w:World)(g lm lr l8:Nat)(m n:List UInt8)(B:Nat)(hB:w.heap.size<=B)(c:Code):iy B (G8 w g lm lr l8 m n c):=by
 rintro s S W W' ⟨hc,hS,h1,h2,h6⟩ aH;exact⟨hc,hS,lS h1 aH ((hS _).2 (.inl rfl)),lS h2 aH ((hS _).2 (.inr (.inl rfl))),uI h6 aH hB (bQ _)⟩
theorem Jp.rd{W W':World}{lm lr:Nat}{rem:List (List UInt8)}{e:Ending}(h:Jp W lm lr rem e W'):(rem = []/\e = .returned (.tuple #[.string ⟨#[]⟩,.bool false])/\W'=W)\/
 ∃ x rest,rem=x::rest/\e = .returned (.tuple #[bB x,.bool true])/\td W' lm lr rest/\(∀ S:Nat->Prop,S lm->S lr->RdStep S W W')/\(∀ b t v,b≠lm->b≠lr->Boxed W b t v->Boxed W' b t v)/\(∀ (n:Nat) (w:World),n<=lm->n<=lr->Below n w W->Below n w W'):=by
 rcases h with h | ⟨x,rest,h1,h2,h3,b,u,hb,rfl⟩
 ·exact .inl h
 ·refine .inr ⟨x,rest,h1,h2,h3,λS s1 s2=>?_,λb' t v n1 n2 hv=>fC hv (by rcases hb with rfl | rfl<;>assumption) _,λn w n1 n2 hB=>hB.setCell (p:=⟨b,0,none⟩) (by rcases hb with rfl | rfl<;>assumption) _⟩;exact RdStep.setCell (RdStep.refl S W) (.inl (by rcases hb with rfl | rfl<;>assumption)) _
theorem Qf{w:World}{lm lr l8:Nat}{fv:Value}{m n:List UInt8}{pre:List (List UInt8)}{S:Nat->Prop}{W W3:World}{a:Act}{v0 v1:Value}{q:Int}(hS:G7 w.heap.size lm lr l8 S)
 (hr:RdStep S W W3) (ag:∀ k,S k->k<W.heap.size) (c0:Boxed W3 w.heap.size 3 v0) (c1:Boxed W3 (w.heap.size+1) 34 v1) (hB:Below w.heap.size w W3) (hv:Np.oi (Np.bI m) (Np.bI n)=q) :
 lR (G6 w w.heap.size lm lr l8 fv m n) (G8 w w.heap.size lm lr l8 m n) pre S W .ret a ((W3.setCell ⟨w.heap.size,0,none⟩ (.int .i64 q)).setCell ⟨w.heap.size+1,0,none⟩ (.int .i64 0)):=
 ⟨S,(hr.setCell (.inl ((hS _).2 (.inl rfl))) _).setCell (.inl ((hS _).2 (.inr (.inl rfl)))) _,λ_ e=>.inl e,λk e=>by have:=ag k e;have:=hr.size;simp[World.setCell];omega,rfl,hS,
  by rw[hv];exact fC (c0.set _) (by simp) _,(fC c1 (by simp) _).set _,(hB.setCell (bQ _) _).setCell (by simp) _⟩
def o8(a b:List UInt8):Value:=if Np.ai a&&Np.ai b then .tuple #[.int .i64 (Np.br a b),.int .i64 0] else .tuple #[.int .i64 0,.int .i64 11]
theorem compare_any(a b:ByteArray)(ha:a.size<=140737488355328)(hb:b.size<=140737488355328)(w:World) :
 Calls prog 256 #[.string a,.string b] w λe w'=>e = .returned (o8 a.data.toList b.data.toList)/\Below w.heap.size w w':=by
 refine (callsIn_wide (n:=0)).1 ?_;refine callsIn_of_wp_marks func256 rfl trivial ?_ rfl;simp only[ntmps256,List.size_toArray,List.length_cons,List.length_nil,Nat.reduceAdd,Nat.reduceSub,Array.replicate_succ,Array.replicate_zero,List.push_toArray,List.append_toArray,List.nil_append,List.cons_append];have b0:=Boxed.new w 3 (.int .i64 0);have b1:=Boxed.new (w.alloc (.cells #[.int .i64 0] 3)) 34 (.int .i64 0);rw[World.size_alloc] at b1;replace b0:=b0.alloc (.cells #[.int .i64 0] 34);have iL:Below w.heap.size w ((w.alloc (.cells #[.int .i64 0] 3)).alloc (.cells #[.int .i64 0] 34)):=((vQ _ w).alloc (bQ _) _).alloc (by simp) _;gi_wp2_with fail;refine⟨trivial,rfl,?_⟩;refine (callsIn_wide.2 (valid_any a ha _)).mono ?_;rintro e w1 ⟨rfl,av⟩;replace b0:=uJ b0 av (by simp;omega);replace b1:=uJ b1 av (by simp);replace iL:=iL.trans (av.mono (by simp;omega));clear av;have FJ:∀ (W:World) (tmps:Array Value),Boxed W w.heap.size 3 (.int .i64 0)->Boxed W (w.heap.size+1) 34 (.int .i64 11)->Below w.heap.size w W->(Np.ai a.data.toList&&Np.ai b.data.toList)=false->
  tmps[4]?=some (.pointer (some ⟨w.heap.size,0,none⟩))->tmps[5]?=some (.pointer (some ⟨w.heap.size+1,0,none⟩))->
  bodyPostM Fence.wide 0 prog Tryz.f256 (λe w'=>e = .returned (o8 a.data.toList b.data.toList)/\Below w.heap.size w w') .ret { tmps:=tmps,defers:=[] } W:=λW tmps c0 c1 hB hv t4 t5=>by
  have d0:=c0.cell;have d1:=c1.cell;exact zl (v:=.tuple #[.int .i64 0,.int .i64 11]) (by simp[results,results256,go_sem,d0,d1,t4,t5]) ⟨by rw[o8,hv];rfl,hB⟩
 have pL:=jq FJ;clear FJ;have c0:=b0.cell;have c1:=b1.cell;have f0:=b0.frozen;have f1:=b1.frozen
 cases va:Np.ai a.data.toList with
 | false=>
  gi_wp2_with fail;refine⟨trivial,?_⟩;gi_wp2_with fail;refine pL.out _ _ (fC (b0.set _) (by simp) _) ((fC b1 (by simp) _).set _) ((iL.setCell (bQ _) _).setCell (by simp) _) (by rw[va];rfl) rfl rfl
 | true=>
  have VA:=jq va;clear va c0 c1 f0 f1;gi_wp2_with fail;refine⟨trivial,rfl,?_⟩;refine (callsIn_wide.2 (valid_any b hb _)).mono ?_;rintro e w2 ⟨rfl,ae⟩;have cJ:w.heap.size+1<w1.heap.size:=b1.lt;replace b0:=uJ b0 ae (by omega);replace b1:=uJ b1 ae cJ;replace iL:=iL.trans (ae.mono (by omega));have ga:=ae.size;clear ae;have c0:=b0.cell;have c1:=b1.cell;have f0:=b0.frozen;have f1:=b1.frozen
  cases vb:Np.ai b.data.toList with
  | false=>
   gi_wp2_with fail;refine pL.out _ _ (fC (b0.set _) (by simp) _) ((fC b1 (by simp) _).set _) ((iL.setCell (bQ _) _).setCell (by simp) _) (by rw[vb,Bool.and_false]) rfl rfl
  | true=>
   have VV:Hid ((Np.ai a.data.toList&&Np.ai b.data.toList)=true):=jq (by rw[VA.out,vb];rfl);clear vb VA pL;by_cases kS:a.data.toList=b.data.toList
   ·have aIZ:(a.toList == b.toList)=true:=by rw[dQ,dQ,kS];simp
    gi_wp2_with fail;have d0:=(fC (b0.set (.int .i64 0)) (p:=⟨w.heap.size+1,0,none⟩) (by simp) (.int .i64 0)).cell;have d1:=((fC b1 (p:=⟨w.heap.size,0,none⟩) (by simp) (.int .i64 0)).set (.int .i64 0)).cell;exact zl (v:=.tuple #[.int .i64 0,.int .i64 0]) (by simp[results,results256,go_sem,d0,d1]) ⟨by rw[o8,VV.out,kS];simp[Np.br],(iL.setCell (bQ _) _).setCell (by simp) _⟩
   ·have aIZ:(a.toList == b.toList)=false:=by rw[dQ,dQ];simpa using kS
    have HV:Hid (o8 a.data.toList b.data.toList = .tuple #[.int .i64 (Np.oi (Np.bI a.data.toList) (Np.bI b.data.toList)),.int .i64 0]):=jq (by rw[o8,VV.out];simp[Np.br,kS]);clear kS;gi_wp2_with fail;refine⟨trivial,rfl,?_⟩;refine (callsIn_wide.2 (bkZ b hb _)).mono ?_;rintro e w3 ⟨rfl,zK,aq,bR⟩;have gk:=jq bR;clear bR;replace b0:=uJ b0 aq (by omega);replace b1:=uJ b1 aq (by omega);replace iL:=iL.trans (aq.mono (by omega));clear aq;have hl:=iL.size;have b8:=Boxed.new w3 264 (.func (.func 304) #[] #[.pointer (some ⟨w2.heap.size+1,0,none⟩),.pointer (some ⟨w2.heap.size,0,none⟩)]);replace b0:=b0.alloc (.cells #[.func (.func 304) #[] #[.pointer (some ⟨w2.heap.size+1,0,none⟩),.pointer (some ⟨w2.heap.size,0,none⟩)]] 264);replace b1:=b1.alloc (.cells #[.func (.func 304) #[] #[.pointer (some ⟨w2.heap.size+1,0,none⟩),.pointer (some ⟨w2.heap.size,0,none⟩)]] 264);replace zK:td (w3.alloc (.cells #[.func (.func 304) #[] #[.pointer (some ⟨w2.heap.size+1,0,none⟩),.pointer (some ⟨w2.heap.size,0,none⟩)]] 264)) (w2.heap.size+1) w2.heap.size (Np.bI b.data.toList):=zK.it (B:=w3.heap.size) (S:=λ_=>True) (x7 _) trivial trivial;replace iL:=iL.alloc iL.size (.cells #[.func (.func 304) #[] #[.pointer (some ⟨w2.heap.size+1,0,none⟩),.pointer (some ⟨w2.heap.size,0,none⟩)]] 264);clear c0 c1 f0 f1;have n8:=Boxed.new w3 264 .nilFunc;have n8c:=n8.cell;have n8f:=n8.frozen;gi_wp2_with fail;clear n8 n8c n8f;have hEG:=enters_of func304 (by kernel_rfl) rfl;have b6Z:w.heap.size+1<w2.heap.size:=by omega
    have cB:w3.heap.size=w2.heap.size+2:=gk.out;refine ME (n₀:=w.heap.size) (w0:=w) (first:=#[.string a]) (captured:=#[]) (gf:=187) rfl (enters_of func187 (by kernel_rfl) rfl) (mk:=λy=>#[.string a,y]) (λ_=>rfl)
     (Jy a ha _ w) iL iL.size (λ_=>rfl) (G6 w w.heap.size (w2.heap.size+1) w2.heap.size w3.heap.size (.func (.func 304) #[] #[.pointer (some ⟨w2.heap.size+1,0,none⟩),.pointer (some ⟨w2.heap.size,0,none⟩)]) a.data.toList b.data.toList)
     (G8 w w.heap.size (w2.heap.size+1) w2.heap.size w3.heap.size a.data.toList b.data.toList)
     (P7 _ _ _ _ _ _ _ _ _ iL.size) (λc=>aoQ _ _ _ _ _ _ _ _ iL.size c)
     (λk=>k=w.heap.size\/k=w.heap.size+1\/k=w2.heap.size+1\/k=w2.heap.size\/k=w3.heap.size) (by intro k h;omega) (by intro k h;simp;omega)
     ⟨λ_=>Iff.rfl,b0,b1,b8,⟨_,zK,λrest h=>by rw[h];rfl⟩,iL⟩ ?round ?done ?stop
    case round=>
     rintro l0 pre x S W bW hI fG;clear cB;gi_wp2;refine⟨S,RdStep.refl _ _,λk e=>.inl e,fG,?_⟩;intro l W₂ aH;obtain⟨hS,c0,c1,c8,⟨rem,hp,zO⟩,hB⟩:=P7 w w.heap.size _ _ _ _ _ _ _ iL.size pre S W W₂ hI aH;have c8c:=c8.cell;have nz:∀ k,S k->k<W₂.heap.size:=λk e=>lqQ (fG k e) aH.size;have hx:x∈Np.bI a.data.toList:=bW.subset (by simp);have vx:x.length<=140737488355328:=by have:=Np.B2 hx;rw[bO] at this;omega
     obtain⟨rest,mU⟩:=bW;have uW:=zO (x::rest) (by rw[<-mU];simp);have HR:=jq mU;have HG:=jq uW;clear mU uW zO hx hI aH b0 b1 b8 zK;gi_wp2_with fail;refine⟨trivial,rfl,?_⟩;refine (CallsIn.inRound l (callsIn_wide.2 (bfJ (w2.heap.size+1) w2.heap.size (by omega) rem _ hp))).mono ?_;intro e W3 hP;rcases hP.rd with ⟨tP,rfl,rfl⟩ | ⟨y,rem',tP,rfl,hp',cp,eG,cO⟩
     ·have c0c:=c0.cell;have c1c:=c1.cell;have c0f:=c0.frozen;have c1f:=c1.frozen;have sT:=jq tP;clear tP hP;gi_wp2_with fail;exact Qf hS (RdStep.refl S _) nz c0 c1 hB (by rw[HG.out,sT.out];rfl)
     ·have sT:=jq tP;replace c0:=eG _ _ _ (by omega) (by omega) c0;replace c1:=eG _ _ _ (by omega) (by omega) c1;replace c8:=eG _ _ _ (by have:=gk.out;omega) (by have:=gk.out;omega) c8;have KW:=cp S ((hS _).2 (.inr (.inr (.inl rfl)))) ((hS _).2 (.inr (.inr (.inr (.inl rfl)))));have hB':=cO w.heap.size w (by omega) (by omega) hB;have c0c:=c0.cell;have c1c:=c1.cell;have c0f:=c0.frozen;have c1f:=c1.frozen;clear tP hP cp eG cO c8c hp hB;have uW:Np.oi (Np.bI a.data.toList) (Np.bI b.data.toList)=if Np.dp x y≠0 then Np.dp x y else Np.oi rest rem':=by rw[HG.out,sT.out];rfl
      have Eo:=jq uW;clear uW HG;have bw:=bDX ⟨x.toArray⟩ ⟨y.toArray⟩ W3;by_cases hc:Np.dp x y=0
      ·have cH:(Np.dp x y != 0)=false:=by simp[hc]
       have HC:=jq hc;clear hc;gi_wp2_with (refine⟨trivial,rfl,?_⟩;gi_at_call 287;refine (CallsIn.inRound l (callsIn_wide.2 bw)).mono ?_;rintro e w' ⟨rfl,rfl⟩);refine⟨S,KW,λ_ e=>.inl e,λk e=>by have:=nz k e;have:=KW.size;omega,hS,c0,c1,c8,⟨rem',hp',λr hr=>?_⟩,hB'⟩
       have:r=rest:=List.append_cancel_left (hr.symm.trans HR.out.symm)
       rw[Eo.out,Qc (λh=>h HC.out),this]
      ·have cH:(Np.dp x y != 0)=true:=by simpa using hc
       have HC:=jq hc;clear hc;gi_wp2_with (refine⟨trivial,rfl,?_⟩;gi_at_call 287;refine (CallsIn.inRound l (callsIn_wide.2 bw)).mono ?_;rintro e w' ⟨rfl,rfl⟩);exact Qf hS KW nz c0 c1 hB' (by rw[Eo.out,QbQ HC.out])
    case done=>
     rintro D S W hD gq bJ ⟨hS,c0,c1,c8,⟨rem,hp,zO⟩,hB⟩ hK;clear cB b0 b1 b8 zK;have c0c:=c0.cell;have c1c:=c1.cell;have c0f:=c0.frozen;have c1f:=c1.frozen;have xD:Np.oi (Np.bI a.data.toList) (Np.bI b.data.toList) = -1:=by rw[zO [] (by simp)];rfl
     have HE:=jq xD;have tk:w.heap.size≠D:=λe=>gq ((hS _).2 (.inl e.symm));have qk:w.heap.size+1≠D:=λe=>gq ((hS _).2 (.inr (.inl e.symm)));have JZ:w.heap.size<=D:=by have:=iL.size;omega
     clear xD zO hp c8;gi_wp2;have hK':((W.setCell ⟨w.heap.size,0,none⟩ (.int .i64 (-1))).setCell ⟨w.heap.size+1,0,none⟩ (.int .i64 0)).heap[D]?=some (.deferred (some [])):=
      (wQ _ _ _ _ (by simpa using qk.symm)).trans ((wQ _ _ _ _ (by simpa using tk.symm)).trans hK)
     have d0:=(th (fC (c0.set (.int .i64 (-1))) (p:=⟨w.heap.size+1,0,none⟩) (by simp) (.int .i64 0)) tk (.deferred none)).cell;have d1:=(th ((fC c1 (p:=⟨w.heap.size,0,none⟩) (by simp) (.int .i64 (-1))).set (.int .i64 0)) qk (.deferred none)).cell;exact pb hK' (v:=.tuple #[.int .i64 (-1),.int .i64 0]) (by simp[results,results256,go_sem,d0,d1]) ⟨by rw[HV.out,HE.out],o7 ((hB.setCell (bQ _) _).setCell (by simp) _) JZ _⟩
    case stop=>
     rintro D c pre S W hD gq bJ mf ⟨rfl,hS,c0,c1,hB⟩ hK;clear cB b0 b1 b8 zK;have tk:w.heap.size≠D:=λe=>gq ((hS _).2 (.inl e.symm));have qk:w.heap.size+1≠D:=λe=>gq ((hS _).2 (.inr (.inl e.symm)));have JZ:w.heap.size<=D:=by have:=iL.size;omega
     gi_wp2;have d0:=(th c0 tk (.deferred none)).cell;have d1:=(th c1 qk (.deferred none)).cell;exact pb hK (v:=.tuple #[.int .i64 (Np.oi (Np.bI a.data.toList) (Np.bI b.data.toList)),.int .i64 0]) (by simp[results,results256,go_sem,d0,d1]) ⟨by rw[HV.out],o7 hB JZ _⟩
end D
section
open Go.RowKit
def o8(a b:List UInt8):Value:=if Np.ai a&&Np.ai b then .tuple #[.int .i64 (Np.br a b),.int .i64 0] else .tuple #[.int .i64 0,.int .i64 11]
theorem compare_any(a b:ByteArray)(ha:a.size<=140737488355328)(hb:b.size<=140737488355328)(w:World) :
 Calls prog 256 #[.string a,.string b] w (aCX w.heap.size w (o8 a.data.toList b.data.toList)):=
 (D.compare_any a b ha hb w).mono λ_ _ h=>⟨h.1,h.2.low⟩
end
namespace Np
inductive Res (α:Type) where
 | ok (a:α) (r:List Tok)
 | err (e:Int) (r:List Tok)
deriving DecidableEq
structure Diag where
 err:Int
 pos:Int
deriving DecidableEq
def okR:List (List UInt8)->Bool
 | []=>true
 | [x]=>cD x||x == [42]
 | x::y::r=>cD x&&okR (y::r)
theorem bDQ:cD [42]=false:=by decide
theorem aBK(xs:List (List UInt8))(n:Nat):fW xs n true=xs.isEmpty:=by cases xs<;>simp[fW]
theorem aBJ:∀ (xs:List (List UInt8)) (n:Nat),n<=8->fW xs n false=(decide (n+xs.length<=8)&&okR xs):=by
 intro xs
 induction xs with
 | nil=>intro n hn;simp[fW,okR,hn]
 | cons x xs ih=>
  intro n hn;rw[fW];by_cases h8:8<n+1
  ·rw[QbQ (by simp;omega),tQ (by simp;omega)];rfl
  ·rw[Qc (by simp;omega)];by_cases hx:x = [42]
   ·subst hx;rw[QbQ rfl,aBK]
    cases xs with
    | nil=>simp[okR];omega
    | cons y r=>simp[okR,bDQ]
   ·rw[Qc hx];by_cases hl:cD x=true
    ·rw[QbQ hl,ih (n+1) (by omega)]
     cases xs with
     | nil=>simp[okR,hl]
     | cons y r=>simp only[okR,hl,Bool.true_and,List.length_cons];congr 1;congr 1;apply propext;omega
    ·rw[Qc hl]
     cases xs with
     | nil=>simp[okR,hl,hx]
     | cons y r=>simp[okR,hl]
def iE:List (List UInt8)->Bool
 | []=>true
 | h::t=>(cD h||h == [42])&&t.all cD
theorem bhZ:∀ (a:List (List UInt8)) (h:List UInt8),okR (a ++ [h])=(a.all cD&&(cD h||h == [42])):=by
 intro a h
 induction a with
 | nil=>simp[okR]
 | cons x a ih=>
  cases a with
  | nil=>simp[okR]
  | cons y r=>
   simp only[List.cons_append,okR] at ih |-;rw[ih];simp[Bool.and_assoc]
theorem bhQ(l:List (List UInt8)):okR l.reverse=iE l:=by
 cases l with
 | nil=>rfl
 | cons h t=>rw[List.reverse_cons,bhZ,iE,List.all_reverse,Bool.and_comm]
theorem yt(s:List UInt8):ai s=if s = [46] then true else if 60<s.length then false else iE (be s)&&decide ((be s).length<=8):=by
 unfold ai;split
 ·rfl
 ·split
  ·rfl
  ·rw[aBJ _ 0 (by omega),bhQ,List.length_reverse,Bool.and_comm];simp
def dm:List (List UInt8)->List UInt8
 | []=>[]
 | [x]=>x
 | x::y::r=>x++46::dm (y::r)
theorem a7Q(c:UInt8)(x:List UInt8)(xs:List (List UInt8)):dm ((c::x)::xs)=c::dm (x::xs):=by
 cases xs<;>simp[dm]
theorem x9(s:List UInt8):dm (be s)=s:=by
 induction s with
 | nil=>rfl
 | cons c r ih=>
  rw[be];have hne:=oM r
  cases hr:be r with
  | nil=>exact absurd hr hne
  | cons x xs=>
   rw[hr] at ih;split
   ·rename_i hc;subst hc;rw[dm,ih];rfl
   ·rw[a7Q,ih]
theorem a6Y:∀ (l m:List (List UInt8)),l≠[]->m≠[]->dm (l++m)=dm l++46::dm m:=by
 intro l
 induction l with
 | nil=>intro m h;exact absurd rfl h
 | cons x l ih=>
  intro m _ hm
  cases l with
  | nil=>
   cases m with
   | nil=>exact absurd rfl hm
   | cons y m=>simp[dm]
  | cons y l=>
   have:=ih m (by simp) hm
   simp only[List.cons_append,dm] at this |-;rw[this];simp
def bC(s:List UInt8):List (List UInt8):=if s = [46] then [] else be s
theorem oI(s:List UInt8):(bC s).reverse=bI s:=by
 unfold bC bI;split<;>rfl
theorem zf{a b:List UInt8}(h:bI a=bI b):a=b:=by
 unfold bI at h;by_cases ha:a = [46]
 ·by_cases hb:b = [46]
  ·rw[ha,hb]
  ·rw[QbQ ha,Qc hb] at h
   have:=oM b
   exact absurd (List.reverse_eq_nil_iff.1 h.symm) this
 ·by_cases hb:b = [46]
  ·rw[QbQ hb,Qc ha] at h;exact absurd (List.reverse_eq_nil_iff.1 h) (oM a)
  ·rw[Qc ha,Qc hb] at h
   have:=List.reverse_inj.1 h
   rw[<-x9 a,this,x9]
def inL(l m:List (List UInt8)):Bool:=decide (m.length<=l.length)&&(l.drop (l.length - m.length) == m)
theorem vB{l m:List (List UInt8)} : inL l m=true↔∃ p,l=p++m:=by
 unfold inL;simp only[Bool.and_eq_true,Qa,beq_iff_eq];constructor
 ·rintro⟨h1,h2⟩;refine⟨l.take (l.length - m.length),?_⟩;rw[<-h2,List.length_drop]
  conv => lhs;rw[<-List.take_append_drop (l.length - m.length) l]
  congr 2;omega
 ·rintro⟨p,rfl⟩;refine⟨by simp,?_⟩;rw[List.length_append,Nat.add_sub_cancel,List.drop_left]
theorem py{s z:List UInt8}(hz:z≠[]):inL (bC s) (bC z)=aW s z:=by
 rw[Bool.eq_iff_iff,vB];unfold aW bC;simp only[Bool.or_eq_true,Bool.and_eq_true,beq_iff_eq,Qa];by_cases h1:z = [46]
 ·rw[QbQ h1];exact⟨λ_=>.inl (.inr h1),λ_=>⟨_,(List.append_nil _).symm⟩⟩
 ·rw[Qc h1];by_cases h2:s = [46]
  ·rw[QbQ h2];constructor
   ·rintro⟨p,hp⟩
    have:=List.append_eq_nil_iff.1 hp.symm
    exact absurd this.2 (oM z)
   ·rintro ((h | h) | ⟨⟨h3,_⟩,_⟩)
    ·exact absurd (h ▸ h2) h1
    ·exact absurd h h1
    ·subst h2;have h4:z.length<1:=h3;exact absurd (rQ (by omega)) hz
  ·rw[Qc h2];constructor
   ·rintro⟨p,hp⟩;by_cases h0:p = []
    ·subst h0;rw[List.nil_append] at hp;left;left;rw[<-x9 s,hp,x9]
    ·right;have hs:s=dm p++46::z:=by
      rw[<-x9 s,hp,a6Y _ _ h0 (oM z),x9]
     subst hs;refine⟨⟨by simp;omega,?_⟩,?_⟩
     ·rw[show (dm p++46::z).length - z.length=(dm p ++ [46]).length by simp;omega,show dm p++46::z=(dm p ++ [46])++z by simp,List.drop_left]
     ·rw[show (dm p++46::z).length - z.length - 1=(dm p).length by simp;omega];rw[oQ (bQ _)];simp
   ·rintro ((h | h) | ⟨⟨h3,h4⟩,h5⟩)
    ·exact⟨[],by rw[h];rfl⟩
    ·exact absurd h h1
    ·have hs:s=s.take (s.length - z.length - 1)++46::z:=by
      conv => lhs;rw[<-List.take_append_drop (s.length - z.length - 1) s]
      congr 1;obtain⟨hl,he⟩:=cQ.1 h5;rw[sQ hl,he,show s.length - z.length - 1+1=s.length - z.length by omega,h4]
     refine⟨be (s.take (s.length - z.length - 1)),?_⟩
     conv => lhs;rw[hs]
     rw[yk]
def dt:List (List UInt8)->List (List UInt8)->Int
 | [],[]=>0
 | [],_::_=>-1
 | _::_,[]=>1
 | x::xs,y::ys=>if dp x y≠0 then dp x y else dt xs ys
theorem wV(x:List UInt8):dp x x=0:=by
 have:∀ x:List UInt8,Go.Op.bytesLess x x=false:=by
  intro x
  induction x with
  | nil=>rfl
  | cons a x ih=>simp[Go.Op.bytesLess,ih]
 simp[dp,this]
theorem ti{x y:List UInt8}(h:dp x y=0):x=y:=by
 unfold dp at h;split at h
 ·omega
 ·split at h
  ·assumption
  ·omega
theorem T7(l:List (List UInt8)):dt l l=0:=by
 induction l with
 | nil=>rfl
 | cons x l ih=>rw[dt,wV,Qc (by simp),ih]
theorem bhX:∀ (l m:List (List UInt8)),l≠m->dt l m=oi l m:=by
 intro l
 induction l with
 | nil=>
  intro m h
  cases m with
  | nil=>exact absurd rfl h
  | cons y m=>rfl
 | cons x l ih=>
  intro m h
  cases m with
  | nil=>rfl
  | cons y m=>
   rw[dt,oi];by_cases hc:dp x y≠0
   ·rw[QbQ hc,QbQ hc]
   ·rw[Qc hc,Qc hc]
    have:=ti (Decidable.not_not.1 hc)
    subst this;exact ih m (λe=>h (by rw[e]))
theorem B6(a b:List UInt8):br a b=dt (bI a) (bI b):=by
 unfold br;split
 ·rename_i h;rw[h,T7]
 ·rename_i h;exact (bhX _ _ (λe=>h (zf e))).symm
theorem B7(a:List UInt8):br a a=0:=by simp[br]
theorem E9{a b:List UInt8}(h:br a b=0):a=b:=by
 rw[B6] at h;refine zf ?_
 have:∀ l m:List (List UInt8),dt l m=0->l=m:=by
  intro l
  induction l with
  | nil=>intro m h;cases m with
    | nil=>rfl
    | cons y m=>simp[dt] at h
  | cons x l ih=>
   intro m h
   cases m with
   | nil=>simp[dt] at h
   | cons y m=>
    rw[dt] at h;split at h
    ·rename_i hc;exact absurd h hc
    ·rename_i hc;rw[ti (Decidable.not_not.1 hc),ih m h]
 exact this _ _ h
theorem Fa(a b:DSet):ic a b=if br a.name b.name≠0 then br a.name b.name else eD a.type b.type:=by
 unfold ic;by_cases h:a.name=b.name
 ·rw[Qc (by simp[h]),h,B7,Qc (by simp)]
 ·rw[QbQ h,QbQ (λe=>h (E9 e))]
theorem alX:∀ (x y:List UInt8),Go.Op.bytesLess x y=false->x≠y->Go.Op.bytesLess y x=true:=by
 intro x
 induction x with
 | nil=>intro y h hn;cases y with
   | nil=>exact absurd rfl hn
   | cons b y=>simp[Go.Op.bytesLess] at h
 | cons a x ih=>
  intro y h hn
  cases y with
  | nil=>simp[Go.Op.bytesLess]
  | cons b y=>
   simp only[Go.Op.bytesLess] at h |-;by_cases h1:a<b
   ·simp[h1] at h
   ·by_cases h2:b<a
    ·simp[h2]
    ·have h3:a=b:=by
      apply UInt8.toNat_inj.1;simp only[UInt8.lt_iff_toNat_lt] at h1 h2;omega
     subst h3;simp[h1] at h |-;exact ih y h (λe=>hn (by rw[e]))
theorem zg(x y:List UInt8):(Go.Op.bytesLess x y=true/\dp x y = -1)\/(Go.Op.bytesLess x y=false/\Go.Op.bytesLess y x=true/\x≠y/\dp x y=1)\/(Go.Op.bytesLess x y=false/\Go.Op.bytesLess y x=false/\x=y/\dp x y=0):=by
 cases h:Go.Op.bytesLess x y with
 | true=>exact .inl ⟨rfl,by simp[dp,h]⟩
 | false=>
  by_cases hn:x=y
  ·subst hn;exact .inr (.inr ⟨rfl,h,rfl,wV x⟩)
  ·exact .inr (.inl ⟨rfl,alX x y h hn,hn,by simp[dp,h,hn]⟩)
def LJ(a b:Datum):Bool:=if a.text≠b.text then Go.Op.bytesLess a.text b.text else if a.n≠b.n then decide (a.n<b.n) else decide (a.m<b.m)
theorem bbZ(a b:Datum):LJ a b=decide (rH a b<0):=by
 unfold LJ rH;rcases zg a.text b.text with ⟨h1,h2⟩ | ⟨h1,_,h3,h2⟩ | ⟨_,_,h3,h2⟩
 ·have hn:a.text≠b.text:=λe=>by rw[e,wV] at h2;omega
  rw[QbQ hn,QbQ (by omega),h1,h2];rfl
 ·rw[QbQ h3,QbQ (by omega),h1,h2];rfl
 ·rw[Qc (show ¬ a.text≠b.text from λe=>e h3),Qc (show ¬ dp a.text b.text≠0 from λe=>e h2)];by_cases h4:a.n=b.n
  ·rw[Qc (show ¬ a.n≠b.n from λe=>e h4)];have h5:eD a.n b.n=0:=by unfold eD;rw[Qc (by omega),Qc (by omega)]
   rw[Qc (show ¬ eD a.n b.n≠0 from λe=>e h5)];unfold eD;by_cases h6:a.m<b.m
   ·rw[QbQ h6];simp[h6]
   ·by_cases h7:b.m<a.m
    ·rw[Qc h6,QbQ h7];simp;omega
    ·rw[Qc h6,Qc h7];simp;omega
  ·rw[QbQ (show a.n≠b.n from h4)];by_cases h6:a.n<b.n
   ·have h5:eD a.n b.n = -1:=by unfold eD;rw[QbQ h6]
    rw[h5];simp[h6]
   ·have h5:eD a.n b.n=1:=by unfold eD;rw[Qc h6,QbQ (by omega)]
    rw[h5];simp;omega
structure TO{α:Type}(c:α->α->Int):Prop where
 self:∀ x,c x x=0
 zero:∀ x y,c x y=0->x=y
 anti:∀ x y,c x y<0->0<c y x
 anti':∀ x y,0<c x y->c y x<0
 trans:∀ x y z,c x y<0->c y z<0->c x z<0
theorem TO.lex{α β γ:Type}{c:α->α->Int}{d:β->β->Int}(hc:TO c)(hd:TO d)(f:γ->α)(g:γ->β)(hfg:∀ x y,f x=f y->g x=g y->x=y):TO (λx y:γ=>if c (f x) (f y)≠0 then c (f x) (f y) else d (g x) (g y)) where
 self x:=by simp[hc.self,hd.self]
 zero x y h:=by
  by_cases h1:c (f x) (f y)≠0
  ·rw[QbQ h1] at h;exact absurd h h1
  ·rw[Qc h1] at h;exact hfg x y (hc.zero _ _ (Decidable.not_not.1 h1)) (hd.zero _ _ h)
 anti x y h:=by
  by_cases h1:c (f x) (f y)≠0
  ·rw[QbQ h1] at h
   have:=hc.anti _ _ h
   rw[QbQ (by omega)];exact this
  ·rw[Qc h1] at h;have e:=hc.zero _ _ (Decidable.not_not.1 h1);rw[e,hc.self,Qc (by simp)];exact hd.anti _ _ h
 anti' x y h:=by
  by_cases h1:c (f x) (f y)≠0
  ·rw[QbQ h1] at h
   have:=hc.anti' _ _ h
   rw[QbQ (by omega)];exact this
  ·rw[Qc h1] at h;have e:=hc.zero _ _ (Decidable.not_not.1 h1);rw[e,hc.self,Qc (by simp)];exact hd.anti' _ _ h
 trans x y z h k:=by
  by_cases h1:c (f x) (f y)≠0
  ·rw[QbQ h1] at h;by_cases h2:c (f y) (f z)≠0
   ·rw[QbQ h2] at k
    have:=hc.trans _ _ _ h k
    rw[QbQ (by omega)];exact this
   ·have e:=hc.zero _ _ (Decidable.not_not.1 h2);rw[<-e,QbQ h1];exact h
  ·rw[Qc h1] at h;have e:=hc.zero _ _ (Decidable.not_not.1 h1);by_cases h2:c (f y) (f z)≠0
   ·rw[QbQ h2] at k;rw[e,QbQ h2];exact k
   ·rw[Qc h2] at k;rw[e,Qc h2];exact hd.trans _ _ _ h k
theorem TO.of{α β:Type}{c:α->α->Int}(hc:TO c)(f:β->α)(hf:∀ x y,f x=f y->x=y):TO (λx y=>c (f x) (f y)) where
 self _:=hc.self _
 zero _ _ h:=hf _ _ (hc.zero _ _ h)
 anti _ _ h:=hc.anti _ _ h
 anti' _ _ h:=hc.anti' _ _ h
 trans _ _ _ h k:=hc.trans _ _ _ h k
theorem Gz:∀ (x y:List UInt8),Go.Op.bytesLess x y=decide (x<y)
 | [],[]=>by simp[Go.Op.bytesLess]
 | _::_,[]=>by simp[Go.Op.bytesLess]
 | [],_::_=>by simp[Go.Op.bytesLess]
 | a::x,b::y=>by
   rw[Go.Op.bytesLess,Gz x y];simp only[List.cons_lt_cons_iff];by_cases h1:a<b<;>by_cases h2:a=b<;>by_cases h3:x<y<;>simp[h1,h2,h3]
theorem toS:TO dp where
 self:=wV
 zero _ _:=ti
 anti x y h:=by
  rcases zg x y with ⟨h1,h2⟩ | ⟨_,_,_,h2⟩ | ⟨_,_,_,h2⟩
  ·rcases zg y x with ⟨h3,h4⟩ | ⟨_,_,_,h4⟩ | ⟨_,_,h5,h4⟩
   ·rw[Gz,Qa] at h1 h3;exact absurd h3 (List.lt_asymm h1)
   ·omega
   ·rw[h5,wV] at h;omega
  ·omega
  ·omega
 anti' x y h:=by
  rcases zg x y with ⟨_,h2⟩ | ⟨_,h1,_,h2⟩ | ⟨_,_,_,h2⟩
  ·omega
  ·simp[dp,h1]
  ·omega
 trans x y z h k:=by
  have e:∀ a b:List UInt8,dp a b<0->a<b:=λa b h=>by
   rcases zg a b with ⟨h1,h2⟩ | ⟨_,_,_,h2⟩ | ⟨_,_,_,h2⟩
   ·rw[Gz,Qa] at h1;exact h1
   ·omega
   ·omega
  have:=List.lt_trans (e _ _ h) (e _ _ k)
  unfold dp;rw[Gz,QbQ (by simpa using this)];omega
theorem toI:TO eD where
 self x:=by unfold eD;rw[Qc (by omega),Qc (by omega)]
 zero x y h:=by unfold eD at h;split at h;omega;split at h<;>omega
 anti x y h:=by
  unfold eD at h |-;split at h
  ·rw[Qc (by omega),QbQ (by omega)];omega
  ·split at h<;>omega
 anti' x y h:=by
  unfold eD at h |-;split at h
  ·omega
  ·split at h
   ·rw[QbQ (by omega)];omega
   ·omega
 trans x y z h k:=by
  unfold eD at h k |-;split at h
  ·split at k
   ·rw[QbQ (by omega)];omega
   ·split at k<;>omega
  ·split at h<;>omega
theorem toR:TO dt:=by
 have hs:=toS;refine⟨T7,?_,?_,?_,?_⟩
 ·intro l
  induction l with
  | nil=>intro m h;cases m with
    | nil=>rfl
    | cons y m=>simp[dt] at h
  | cons x l ih=>
   intro m h
   cases m with
   | nil=>simp[dt] at h
   | cons y m=>
    rw[dt] at h;split at h
    ·rename_i hc;exact absurd h hc
    ·rename_i hc;rw[ti (Decidable.not_not.1 hc),ih m h]
 ·intro l
  induction l with
  | nil=>intro m h;cases m with
    | nil=>simp[dt] at h
    | cons y m=>simp[dt]
  | cons x l ih=>
   intro m h
   cases m with
   | nil=>simp[dt] at h
   | cons y m=>
    rw[dt] at h |-;split at h
    ·have:=hs.anti _ _ h
     rw[QbQ (by omega)];exact this
    ·rename_i hc;have e:=ti (Decidable.not_not.1 hc);subst e;rw[Qc hc];exact ih m h
 ·intro l
  induction l with
  | nil=>intro m h;cases m with
    | nil=>simp[dt] at h
    | cons y m=>simp[dt] at h
  | cons x l ih=>
   intro m h
   cases m with
   | nil=>simp[dt]
   | cons y m=>
    rw[dt] at h |-;split at h
    ·have:=hs.anti' _ _ h
     rw[QbQ (by omega)];exact this
    ·rename_i hc;have e:=ti (Decidable.not_not.1 hc);subst e;rw[Qc hc];exact ih m h
 ·intro l
  induction l with
  | nil=>intro m n h k;cases m with
    | nil=>simp[dt] at h
    | cons y m=>cases n with
      | nil=>simp[dt] at k
      | cons z n=>simp[dt]
  | cons x l ih=>
   intro m n h k
   cases m with
   | nil=>simp[dt] at h
   | cons y m=>
    cases n with
    | nil=>simp[dt] at k
    | cons z n=>
     rw[dt] at h k |-;by_cases hc:dp x y≠0
     ·rw[QbQ hc] at h;by_cases hd:dp y z≠0
      ·rw[QbQ hd] at k
       have:=hs.trans _ _ _ h k
       rw[QbQ (by omega)];exact this
      ·have e:=ti (Decidable.not_not.1 hd);rw[<-e,QbQ hc];exact h
     ·rw[Qc hc] at h;have e:=ti (Decidable.not_not.1 hc);by_cases hd:dp y z≠0
      ·rw[QbQ hd] at k;rw[e,QbQ hd];exact k
      ·rw[Qc hd] at k;rw[e,Qc hd];exact ih m n h k
theorem oN:TO br:=by
 have:=toR.of bI (λ_ _ h=>zf h)
 have e:br=λx y=>dt (bI x) (bI y):=by funext x y;exact B6 x y
 rw[e];exact this
def fF(a b:List UInt8×Int):Int:=if br a.1 b.1≠0 then br a.1 b.1 else eD a.2 b.2
theorem yn:TO fF:=oN.lex toI (λd:List UInt8×Int=>d.1) (λd=>d.2) (λ_ _ h k=>Prod.ext h k)
def bV(s:DSet):List UInt8×Int:=(s.name,s.type)
theorem JC(a b:DSet):ic a b=fF (bV a) (bV b):=Fa a b
theorem oO{s z:List UInt8}(hz:z≠[]):aW s z=true↔bI z <+: bI s:=by
 rw[<-py hz,vB,<-oI,<-oI];constructor
 ·rintro⟨p,h⟩;exact⟨p.reverse,by rw[h,List.reverse_append]⟩
 ·rintro⟨p,h⟩;refine⟨p.reverse,?_⟩
  have:=Qd List.reverse h
  simpa using this.symm
theorem Uj:∀ (c n:List (List UInt8)),c <+: n->dt c n<=0
 | [],[],_=>by simp[dt]
 | [],_::_,_=>by simp[dt]
 | x::c,[],h=>by have:=h.length_le;simp at this
 | x::c,y::n,h=>by
   obtain⟨rfl,h2⟩:=List.cons_prefix_cons.1 h;rw[dt,wV,Qc (by simp)];exact Uj c n h2
theorem Ui:∀ (c a b:List (List UInt8)),c <+: b->dt c a<=0->dt a b<=0->c <+: a
 | [],a,b,_,_,_=>List.nil_prefix
 | x::c,[],b,_,h,_=>by simp[dt] at h
 | x::c,y::a,[],h,_,_=>by have:=h.length_le;simp at this
 | x::c,y::a,z::b,h,h1,h2=>by
   obtain⟨rfl,h3⟩:=List.cons_prefix_cons.1 h;rw[dt] at h1 h2;by_cases dY:dp x y=0
   ·have e:=ti dY;subst e;rw[wV,Qc (by simp)] at h1 h2;exact List.cons_prefix_cons.2 ⟨rfl,Ui c a b h3 h1 h2⟩
   ·rw[QbQ dY] at h1
    have:=toS.anti x y (by omega)
    rw[QbQ (by omega)] at h2;omega
theorem DT{s z:List UInt8}(hz:z≠[])(h:aW s z=true):br z s<=0:=by
 rw[B6];exact Uj _ _ ((oO hz).1 h)
theorem Mo{c a b:List UInt8}(hc:c≠[])(h:aW b c=true)(h1:br c a<=0)(h2:br a b<=0):aW a c=true:=by
 rw[B6] at h1 h2;exact (oO hc).2 (Ui _ _ _ ((oO hc).1 h) h1 h2)
theorem DU{a b c:List UInt8}(hb:b≠[])(hc:c≠[])(h1:aW a b=true)(h2:aW b c=true):aW a c=true:=
 (oO hc).2 (((oO hc).1 h2).trans ((oO hb).1 h1))
theorem Az(a:List UInt8):aW a a=true:=by simp[aW]
theorem Vb{n a b:List UInt8}(ha:a≠[])(hb:b≠[])(h1:aW n a=true)(h2:aW n b=true):aW a b=true\/aW b a=true:=by
 rcases List.prefix_or_prefix_of_prefix ((oO ha).1 h1) ((oO hb).1 h2) with h | h
 ·exact .inr ((oO ha).2 h)
 ·exact .inl ((oO hb).2 h)
def jv(C:List UInt8->Bool)(n o:List UInt8):Prop:=
 (o = []/\∀ c,C c=true->aW n c=false)\/(C o=true/\aW n o=true/\∀ c,C c=true->aW o c=true->c=o)
theorem jv.unique{C:List UInt8->Bool}(hC:∀ c,C c=true->c≠[]){n a b:List UInt8}(ha:jv C n a)(hb:jv C n b):a=b:=by
 rcases ha with ⟨rfl,ha⟩ | ⟨a1,a2,a3⟩
 ·rcases hb with ⟨rfl,_⟩ | ⟨b1,b2,_⟩
  ·rfl
  ·rw[ha b b1] at b2;cases b2
 ·rcases hb with ⟨rfl,hb⟩ | ⟨b1,b2,b3⟩
  ·rw[hb a a1] at a2;cases a2
  ·rcases Vb (hC a a1) (hC b b1) a2 b2 with h | h
   ·exact (a3 b b1 h).symm
   ·exact b3 a a1 h
theorem jv.above{C:List UInt8->Bool}(hC:∀ c,C c=true->c≠[]){n o c:List UInt8}(h:jv C n o)(hc:C c=true)(hu:aW n c=true):C o=true/\aW n o=true/\aW c o=true:=by
 rcases h with ⟨_,h⟩ | ⟨h1,h2,h3⟩
 ·rw[h c hc] at hu;cases hu
 ·refine⟨h1,h2,?_⟩;rcases Vb (hC o h1) (hC c hc) h2 hu with h | h
  ·rw[h3 c hc h];exact Az o
  ·exact h
def ew(C:List UInt8->Bool)(cut n:List UInt8):List UInt8:=
 if (if cut≠[]/\aW n cut=false then [] else cut) = []/\C n=true then n else if cut≠[]/\aW n cut=false then [] else cut
theorem U5{C:List UInt8->Bool}{n:List UInt8}(h:∀ c,C c=true->aW n c=true->c=n):jv C n (if C n=true then n else []):=by
 split
 ·rename_i hn;exact .inr ⟨hn,Az n,h⟩
 ·rename_i hn;refine .inl ⟨rfl,λc hc=>?_⟩
  cases hu:aW n c with
  | false=>rfl
  | true=>rw[<-h c hc hu] at hn;exact absurd hc hn
theorem bDZ{C:List UInt8->Bool}(hC:∀ c,C c=true->c≠[]){n:List UInt8}(cK:∀ c,C c=true->¬ br c n<0):jv C n (ew C [] n):=by
 have h:=U5 (n:=n) (λc hc hu=>by
  have h1:=DT (hC c hc) hu;have h2:=cK c hc;exact E9 (by omega))
 have e:ew C [] n=if C n=true then n else []:=by simp[ew]
 rw[e];exact h
theorem bDJ{C:List UInt8->Bool}(hC:∀ c,C c=true->c≠[]){m cut n:List UInt8}(hm:jv C m cut)(kZ:br m n<=0)(cK:∀ c,C c=true->br c n<0->br c m<=0):jv C n (ew C cut n):=by
 by_cases hcut:cut≠[]/\aW n cut=true
 ·have e:ew C cut n=cut:=by simp[ew,hcut.1,hcut.2]
  rw[e];rcases hm with ⟨h,_⟩ | ⟨h1,_,h3⟩
  ·exact absurd h hcut.1
  ·exact .inr ⟨h1,hcut.2,h3⟩
 ·have mc:∀ c,C c=true->aW n c=true->c=n:=λc hc hu=>by
   refine Classical.byContradiction λhne=>hcut ?_;have h1:=DT (hC c hc) hu;have ag:br c n<0:=by
    rcases Int.lt_or_eq_of_le h1 with h | h
    ·exact h
    ·exact absurd (E9 h) hne
   have h2:=Mo (hC c hc) hu (cK c hc ag) kZ;obtain⟨a1,_,a3⟩:=hm.above hC hc h2;exact⟨hC _ a1,DU (hC c hc) (hC _ a1) hu a3⟩
  have h:=U5 mc;have e:ew C cut n=if C n=true then n else []:=by
   unfold ew;by_cases h0:cut = []
   ·subst h0;simp
   ·have:aW n cut=false:=by
     cases hu:aW n cut with
     | false=>rfl
     | true=>exact absurd ⟨h0,hu⟩ hcut
    simp[h0,this]
  rw[e];exact h
structure PG(C:List UInt8->Bool)(H:List (List UInt8)):Prop where
 cut:∀ h∈H,C h=true/\∀ c,C c=true->aW h c=true->c=h
 sorted:H.Pairwise λa b=>br a b<0
theorem aPZ{C:List UInt8->Bool}(hC:∀ c,C c=true->c≠[]){H:List (List UInt8)}(hH:PG C H){n:List UInt8}(cK:∀ h,C h=true->(∀ c,C c=true->aW h c=true->c=h)->br h n<=0->h∈H){k:Nat}(hk:k<=H.length)(h1:∀ j (hj:j<H.length),j<k->br H[j] n<=0)(h2:∀ j (hj:j<H.length),k<=j->0<br H[j] n) :
 jv C n (if h:0<k/\aW n (H[k - 1]?.getD [])=true then H[k - 1]?.getD [] else []):=by
 have dL:∀ c,C c=true->aW n c=true->(∀ d,C d=true->aW c d=true->d=c)->0<k/\∃ dg:k - 1<H.length,H[k - 1]=c:=λc hc hu ht=>by
  have kZ:=DT (hC c hc) hu;obtain⟨j,hj,rfl⟩:=nQ.1 (cK c hc ht kZ);have uY:j<k:=by
   refine Nat.lt_of_not_le λh=>?_
   have:=h2 j hj h
   omega
  refine⟨by omega,by omega,?_⟩;rcases Nat.lt_or_ge j (k - 1) with h | h
  ·have h3:=List.pairwise_iff_getElem.1 hH.sorted j (k - 1) hj (by omega) h;have h4:=h1 (k - 1) (by omega) (by omega);have h5:=Mo (hC _ hc) hu (by omega) h4;have h6:=(hH.cut _ (List.getElem_mem (show k - 1<H.length by omega))).2 _ hc h5;exact h6.symm
  ·obtain rfl:j=k - 1:=by omega
   rfl
 split
 ·rename_i h;obtain⟨h0,h⟩:=h;have hl:k - 1<H.length:=by omega
  rw[aQ hl] at h |-;obtain⟨a,b⟩:=hH.cut _ (List.getElem_mem hl);exact .inr ⟨a,h,b⟩
 ·rename_i h;refine .inl ⟨rfl,λc hc=>?_⟩
  cases hu:aW n c with
  | false=>rfl
  | true=>
   exfalso;have hex:∀ (m:Nat) (c:List UInt8),(bI c).length<=m->C c=true->aW n c=true->∃ t,C t=true/\aW n t=true/\∀ d,C d=true->aW t d=true->d=t:=by
    intro m
    induction m with
    | zero=>
     intro c hm hc hu;refine⟨c,hc,hu,λd hd aY=>?_⟩;have h3:=((oO (hC d hd)).1 aY);exact zf (h3.eq_of_length_le (by omega))
    | succ m ih=>
     intro c hm hc hu;by_cases ht:∀ d,C d=true->aW c d=true->d=c
     ·exact⟨c,hc,hu,ht⟩
     ·obtain⟨d,hd⟩:=Classical.not_forall.1 ht;obtain⟨mK,hd⟩:=Classical.not_imp.1 hd;obtain⟨iN,RS⟩:=Classical.not_imp.1 hd;have h3:=((oO (hC d mK)).1 iN);refine ih d ?_ mK (DU (hC c hc) (hC d mK) hu iN);refine Nat.le_of_lt_succ (lqQ (Nat.lt_of_not_le λhl=>RS (zf (h3.eq_of_length_le hl))) hm)
   obtain⟨t,t1,t2,t3⟩:=hex _ c (bQ _) hc hu;obtain⟨p1,p2,p3⟩:=dL t t1 t2 t3;refine h ⟨p1,?_⟩;rw[aQ p2,p3];exact t2
end Np
end Go.Proofs.YtadhigmjilijcaaGreatDoor
namespace Go.Proofs
open YtadhigmjilijcaaGreatDoor Tryz
open Go.Shelf
end Go.Proofs
