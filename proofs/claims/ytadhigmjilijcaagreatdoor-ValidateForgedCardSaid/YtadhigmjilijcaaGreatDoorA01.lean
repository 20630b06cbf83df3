/- No condition. -/
import Derived.Lib.Hide
import Derived.WalkSpells
import Derived.WalkLawsBesides
import Derived.BigGuardPart
import Derived.StillTailTactics
import Derived.Deep.Light
import Derived.Test.YtadhigmjilijcaaGreatDoorProg
import Derived.RangeFuncNested
import Derived.RangeFuncBound
import Derived.Shelf.RegionOpen
import Derived.OwnWalkIn
import Derived.LoopNIn
import Derived.LoopIn
import Derived.Shelf.Small.Strs
import Derived.Laws.EntriesVeiled
set_option linter.all false
set_option maxRecDepth 100000
set_option maxHeartbeats 8000000
namespace Go.Proofs.YtadhigmjilijcaaGreatDoor
open Go.Proofs.Tryz
section
open Go.RowKit
theorem jq{p:Prop}(h:p):Hid p:=Lib.hid h
theorem cl{B:Nat}{w w':World}(h:Below B w w'){b o:Nat}(hb:b<B):w'.cell? ⟨b,o,none⟩=w.cell? ⟨b,o,none⟩:=h.cell hb
theorem aQ.{u}{α:Type u}{l:List α}{i:Nat}(h:i<l.length):l[i]?=some l[i]:=List.getElem?_eq_getElem h
theorem bQ(n:Nat):n≤n:=Nat.le_refl n
theorem cQ.{u}{α:Type u}{i:Nat}{a:α}{l:List α}:l[i]?=some a↔∃ h:i<l.length,l[i]=a:=List.getElem?_eq_some_iff
theorem dQ(b:ByteArray):b.toList=b.data.toList:=ByteArray.toList_eq b
theorem eQ.{u}{α:Type u}{i:Nat}{b:α}{xs:Array α}:xs[i]?=some b↔∃ h:i<xs.size,xs[i]=b:=Array.getElem?_eq_some_iff
theorem fQ.{u}{α:Type u}{i:Nat}{l:List α}(h:i<l.length):l.take (i+1)=l.take i++[l[i]]:=List.take_succ_eq_append_getElem h
theorem gQ.{u}{α:Type u}{l:List α}{i:Nat}{a:α}(e:l[i]?=some a):a∈l:=List.mem_of_getElem? e
theorem Qh.{u}{α:Type u}{a:α}:¬a∈([]:List α):=List.not_mem_nil
theorem iQ{w w':World}{a:Addr}(h:w'.heap[a.block]?=w.heap[a.block]?):w'.cell? a=w.cell? a:=World.cell?_of_block h
theorem jQ(n:Nat):0≤n:=Nat.zero_le n
theorem kQ.{u}{α:Type u}{i:Nat}{l:List α}(h:l.length≤i):l.take i=l:=List.take_of_length_le h
theorem lqQ{n m k:Nat}:n<m→m≤k→n<k:=Nat.lt_of_lt_of_le
theorem mQ.{u}{α:Type u}(y:α){a:α}{l:List α}:a∈l→a∈y::l:=List.mem_cons_of_mem y
theorem nQ.{u}{α:Type u}{a:α}{l:List α}:a∈l↔∃ (i:Nat) (h:i<l.length),l[i]=a:=List.mem_iff_getElem
theorem oQ.{u}{α:Type u}{l₁ l₂:List α}{i:Nat}:l₁.length≤i→(l₁++l₂)[i]?=l₂[i-l₁.length]?:=List.getElem?_append_right
theorem pQ.{u}{α:Type u}{xs:Array α}{i:Nat}(h:i<xs.size):xs[i]?=some xs[i]:=Array.getElem?_eq_getElem h
theorem rQ.{u}{α:Type u}{l:List α}:l.length=0→l=[]:=List.eq_nil_of_length_eq_zero
theorem sQ.{u}{α:Type u}{i:Nat}{l:List α}(h:i<l.length):l.drop i=l[i]::l.drop (i+1):=List.drop_eq_getElem_cons h
theorem tQ{p:Prop}[Decidable p]:¬p→decide p=false:=decide_eq_false
theorem uQ{p:Prop}[Decidable p]:p→decide p=true:=decide_eq_true
theorem vQ(B:Nat)(w:World):Below B w w:=Below.refl B w
theorem wQ(w:World)(a:Addr)(u:Value)(k:Nat)(h:k≠a.block):(w.setCell a u).heap[k]?=w.heap[k]?:=Below.heap_setCell w a u k h
theorem xQ(w:World)(a b:Addr)(v:Value)(h:a≠b):(w.setCell a v).cell? b=w.cell? b:=World.cell?_setCell_other w a b v h
theorem yQ{n m k:Nat}:n≤m→m≤k→n≤k:=Nat.le_trans
theorem zQ{r k:Nat}{o:Obj}{w:World}(h:k≠r):(w.putObj r o).heap[k]?=w.heap[k]?:=World.putObj_heap_other h
theorem Qa{p:Prop}[Decidable p]:(decide p=true)=p:=decide_eq_true_eq
theorem QbQ.{u}{c:Prop}{h:Decidable c}(hc:c){α:Sort u}{t e:α}:ite c t e=t:=if_pos hc
theorem Qc.{u}{c:Prop}{h:Decidable c}(hn:¬c){α:Sort u}{t e:α}:ite c t e=e:=if_neg hn
theorem Qd.{u,v}{α:Sort u}{β:Sort v}{a b:α}(f:α->β)(h:a=b):f a=f b:=congrArg f h
theorem aQY{B:Nat}{w w':World}(h:Below B w w'){b o:Nat}{v:Option Value}(e:w.cell? ⟨b,o,none⟩=v)(hb:b<B:=by omega):w'.cell? ⟨b,o,none⟩=v:=(h.cell hb).trans e
theorem aRQ{n m:Nat}{a b c:World}(h:Hid (Below n a b))(k:Below m b c)(e:n≤m:=by omega):Hid (Below n a c):=jq (h.out.trans (k.mono e))
theorem aRX.{u}{α:Sort u}(e:α):∃ r,r=e:=⟨_,rfl⟩
abbrev aUQ(n:Nat)(w:World)(v:Value)(e:Ending)(w':World):Prop:=e = .returned v/\Below n w w'
abbrev aUZ(w:World)(v:Value)(e:Ending)(w':World):Prop:=e = .returned v/\w=w'
abbrev aUJ(α:Type):=World->Nat->List Value->α->Prop
theorem aRZ.{u}{α:Sort u}(e:α):∃ r,e=r:=⟨_,rfl⟩
theorem _root_.Go.RowKit.Below.aSZ{n m:Nat}{a b:World}(h:Below m a b)(e:n≤m:=by omega):Below n a b:=h.mono e
theorem aSJ{p:Prop}[Decidable p](h:¬p:=by omega):decide p=false:=decide_eq_false h
theorem aTZ{p:Prop}[Decidable p](h:p:=by omega):decide p=true:=decide_eq_true h
theorem aTJ.{u}{α:Type u}{a b:α}(h:a=b:=by kernel_rfl):some a=some b:=congrArg some h
theorem blAl{w:World}{o:Obj}:Below w.heap.size w (w.alloc o):=(Below.refl _ _).alloc (Nat.le_refl _) _
theorem _root_.Go.RowKit.Below.blSe{B:Nat}{a w:World}(h:Below B a w){p:Addr}(u:Value)(hp:B≤p.block:=by dsimp only;omega):Below B a (w.setCell p u):=h.setCell hp u
theorem blW(w:World):Hid (∀ o,Below w.heap.size w (w.alloc o)):=jq fun o=>blAl
theorem kNN(k:Nat):(0:Int)≤(k:Int):=by omega
theorem cRow5(w:World)(b:Nat)(v0 v1 v2 v3 v4:Value)(h:w.cell? ⟨b,0,none⟩=some v0∧w.cell? ⟨b,1,none⟩=some v1∧w.cell? ⟨b,2,none⟩=some v2∧w.cell? ⟨b,3,none⟩=some v3∧w.cell? ⟨b,4,none⟩=some v4):w.cell? ⟨b,0,none⟩=some v0∧w.cell? ⟨b,1,none⟩=some v1∧w.cell? ⟨b,2,none⟩=some v2∧w.cell? ⟨b,3,none⟩=some v3∧w.cell? ⟨b,4,none⟩=some v4:=h
def bA(w:World):Type:={ x:World // Below w.heap.size w x }
def bA.w{w:World}(g:bA w):World:=g.1
theorem bA.below{w:World}(g:bA w):Below w.heap.size w g.w:=g.2
instance (w:World):Nonempty (bA w):=⟨⟨w,vQ _ _⟩⟩
theorem bA.cell{w:World}(g:bA w)(p:Addr)(h:p.block<w.heap.size):g.w.cell? p=w.cell? p:=g.2.cell h
theorem bA.frozen{w:World}(g:bA w)(p:Addr)(h:p.block<w.heap.size):g.w.frozen? p=w.frozen? p:=g.2.frozen h
theorem bA.size{w:World}(g:bA w):w.heap.size<=g.w.heap.size:=g.2.size
theorem Calls.grow_of{P:Program}{f:FuncId}{args:Array Value}{w:World}{g:bA w}{v:Value}
 (h:Calls P f args g.w λe w'=>e = .returned v/\Below g.w.heap.size g.w w'):Calls P f args g.w λe w''=>e = .returned v/\∃ g':bA w,w''=g'.w:=
 h.mono λ_ w' ⟨he,hm⟩=>⟨he,⟨w',g.2.trans (hm.mono g.2.size)⟩,rfl⟩
theorem Calls.grow_same{P:Program}{f:FuncId}{args:Array Value}{w:World}{g:bA w}{v:Value}
 (h:Calls P f args g.w λe w'=>e = .returned v/\g.w=w'):Calls P f args g.w λe w''=>e = .returned v/\∃ g':bA w,w''=g'.w:=
 h.mono λ_ _ ⟨he,hm⟩=>⟨he,g,hm.symm⟩
section
variable {P:Program}
theorem pg{id:Nat}{Q:Exit->Act->World->Prop}{a:Act}{w:World}{l:List Oper}(hm:P.follows .mixedOrders=true)(hB:Region.lexB .any l.toArray=true)
 (h:wpQuiet P l.toArray (λw'=>∃ g:bA w,w'=g.w) (λa'=>∀ w',(∃ g:bA w,w'=g.w)->Q .normal a' w') l a):(Code.region id l.toArray true).wp P Q a w:=
 wp_region_quiet (C:=λw'=>∃ g:bA w,w'=g.w) hm hB ⟨⟨_,(vQ w.heap.size w).drew⟩,rfl⟩ (by simpa using h)
end
theorem dd{W w1:World}(hb:Below W.heap.size W w1):(∀ b o,b<W.heap.size->w1.cell? ⟨b,o,none⟩=W.cell? ⟨b,o,none⟩)/\(∀ b o,b<W.heap.size->w1.frozen? ⟨b,o,none⟩=W.frozen? ⟨b,o,none⟩):=
 ⟨λb o h=>hb.cell (p:=⟨b,o,none⟩) h,λb o h=>hb.frozen (p:=⟨b,o,none⟩) h⟩
theorem aw{a b:Bool}(h:a=b):Ending.returned (.bool a) = .returned (.bool b):=by rw[h]
theorem jb{k:IntKind}{a b:Int}(h:a=b):Ending.returned (.int k a) = .returned (.int k b):=by rw[h]
theorem be(s:ByteArray):s.data.toList.length=s.size:=rfl
theorem wo(s:ByteArray)(k:Nat)(h:k<s.size):s.data.toList[k]?=some s[k]:=by
 rw[aQ (by rw[be];exact h)];rfl
theorem CT(s:ByteArray)(h:0<s.size):s.data.toList.head?=some s[0]:=by
 rw[List.head?_eq_getElem?];exact wo s 0 h
theorem DE(s:ByteArray)(h:s.size - 1<s.size):s.data.toList.getLast?=some s[s.size - 1]:=by
 rw[List.getLast?_eq_getElem?,be];exact wo s _ h
theorem IJ(s:ByteArray)(k:Nat)(h:k<s.size):s.data.toList.take (k+1)=s.data.toList.take k ++ [s[k]]:=by
 rw[fQ (by simpa using h)];rfl
theorem II(s:ByteArray)(k:Nat)(h:s.size<=k):s.data.toList.take k=s.data.toList:=kQ (by rw[be];exact h)
theorem pd(c:UInt8)(n:Nat)(hn:n<256):(c == UInt8.ofNat n)=decide ((c.toNat:Int)=n):=by
 rw[Bool.eq_iff_iff];simp only[beq_iff_eq,Qa];constructor
 ·rintro rfl;simp;omega
 ·intro h;apply UInt8.toNat_inj.1;simp;omega
theorem AN(c:UInt8):0<=(c.toNat:Int)/\(c.toNat:Int)<=255:=by have:=UInt8.toNat_lt c;omega
theorem mF{s t:ByteArray}(h:s.data.toList=t.data.toList):s=t:=by
 cases s;cases t;simp only at h |-;congr 1;exact Array.toList_inj.1 h
theorem Fx(s:ByteArray)(i j:Nat):(s.extract i j).data.toList=(s.data.toList.take j).drop i:=by
 rw[ByteArray.data_extract];simp[Array.toList_extract,List.extract_eq_take_drop,List.drop_take]
theorem uh(s:ByteArray)(i:Nat):(s.extract i s.size).data.toList=s.data.toList.drop i:=by
 rw[Fx,kQ (by rw[be];exact bQ _)]
theorem yU(s:ByteArray)(j:Nat):(s.extract 0 j).data.toList=s.data.toList.take j:=by rw[Fx];rfl
theorem QV{P:Program}{id:Nat}{Q:Exit->Act->World->Prop}{a:Act}{w:World}{l:List Oper}(n:Nat)(hm:P.follows .mixedOrders=true)(hB:Region.lexTailB .any l.toArray n=true)
 (h:wpStill P l.toArray w.drew (λa'=>wpList P l.toArray Q (l.drop n) a' w.drew) (l.take n) a):(Code.region id l.toArray true).wp P Q a w:=wp_region_still_tail n hm hB h
theorem Calls.still_same{P:Program}{f:FuncId}{args:Array Value}{w:World}{v:Value}(h:Calls P f args w λe w'=>e = .returned v/\w=w'):Calls P f args w λe w''=>e = .returned v/\w''=w:=
 h.mono λ_ _ ⟨he,hw⟩=>⟨he,hw.symm⟩
def eB(w:World)(b o:Nat)(e:List Value):Prop:=∀ j v,e[j]?=some v->w.cell? ⟨b,o+j,none⟩=some v
theorem eB.keep{w w':World}{b o:Nat}{e:List Value}{B:Nat}(h:eB w b o e)(hb:Below B w w')(hB:b<B):eB w' b o e:=
 λj v hj=>(hb.cell (p:=⟨b,o+j,none⟩) hB).trans (h j v hj)
def SlR{α:Type}(R:aUJ α)(sz:Nat)(w:World)(B:Nat)(v:Value)(xs:List α):Prop:=
 ∃ (A:Option Addr) (c:Nat),v = .slice A xs.length c/\xs.length<=c/\xs.length<=140737488355328/\∀ i x,xs[i]?=some x->∃ b o e,A=some ⟨b,o,none⟩/\b<B/\e.length=sz/\eB w b (o+i * sz) e/\R w B e x
def eh{α:Type}(R:aUJ α):Prop:=∀ w w' B e x,R w B e x->Below B w w'->R w' B e x
theorem SlR.keep{α:Type}{R:aUJ α}{sz:Nat}{w w':World}{B:Nat}{v:Value}{xs:List α}(hR:eh R)(h:SlR R sz w B v xs)(hb:Below B w w'):SlR R sz w' B v xs:=by
 obtain⟨A,c,hv,hc,hl,he⟩:=h;refine⟨A,c,hv,hc,hl,λi x hx=>?_⟩;obtain⟨b,o,e,hA,hB,dH,hce,hr⟩:=he i x hx;exact⟨b,o,e,hA,hB,dH,hce.keep hb hB,hR _ _ _ _ _ hr hb⟩
def eI{α:Type}(R:aUJ α):Prop:=∀ w B B' e x,R w B e x->B<=B'->R w B' e x
theorem SlR.more{α:Type}{R:aUJ α}{sz:Nat}{w:World}{B B':Nat}{v:Value}{xs:List α}(hR:eI R)(h:SlR R sz w B v xs)(hB:B<=B'):SlR R sz w B' v xs:=by
 obtain⟨A,c,hv,hc,hl,he⟩:=h;refine⟨A,c,hv,hc,hl,λi x hx=>?_⟩;obtain⟨b,o,e,hA,hb,dH,hce,hr⟩:=he i x hx;exact⟨b,o,e,hA,by omega,dH,hce,hR _ _ _ _ _ hr hB⟩
theorem aTX{P:Program}{id:Nat}{Q:Exit->Act->World->Prop}{a:Act}{w:World}{l:List Oper}(h:wpQuiet P l.toArray (λw'=>∃ g:bA w,w'=g.w) (λa'=>∀ w',(∃ g:bA w,w'=g.w)->Q .normal a' w') l a)(hm:P.follows .mixedOrders=true:=by kernel_rfl)(hB:Region.lexB .any l.toArray=true:=by kernel_rfl):(Code.region id l.toArray true).wp P Q a w:=pg hm hB h
end
namespace Np
def qd(c:UInt8):Bool:=97<=c&&c<=122
def oR(c:UInt8):Bool:=48<=c&&c<=57
def mD(c:UInt8):Bool:=qd c||oR c||c == 45
def bT(l:List UInt8):Bool:=decide (1<=l.length)&&decide (l.length<=12)&&!(l.head? == some 45)&&!(l.getLast? == some 45)&&l.all mD
def Fi(l:List UInt8)(c:UInt8)(r:Int):Prop:=(r = -1/\c∉l)\/∃ a b,l=a++c::b/\c∉b/\r=a.length
def aR:List UInt8->List (List UInt8)
 | []=>[[]]
 | c::r=>if c=46 then []::aR r else match aR r with
   | x::xs=>(c::x)::xs
   | []=>[[c]]
theorem nf(l:List UInt8):aR l≠[]:=by
 cases l with
 | nil=>simp[aR]
 | cons c r=>
  unfold aR;split
  ·simp
  ·split<;>simp
theorem nh{l:List UInt8}(h:46∉l):aR l = [l]:=by
 induction l with
 | nil=>rfl
 | cons c r ih=>
  have h1:c≠46:=λe=>h (by simp[e]);have h2:46∉r:=λe=>h (by simp[e]);unfold aR;rw[Qc h1,ih h2]
theorem rE(a b:List UInt8):aR (a++46::b)=aR a++aR b:=by
 induction a with
 | nil=>simp[aR]
 | cons c r ih=>
  rw[List.cons_append];by_cases h:c=46
  ·rw[aR,QbQ h,aR,QbQ h,ih];rfl
  ·rw[aR,Qc h,aR,Qc h,ih];have hne:=nf r
   cases hr:aR r with
   | nil=>exact absurd hr hne
   | cons x xs=>rfl
def ar(l:List UInt8):List (List UInt8):=if l = [46] then [] else (aR l).reverse
def cV:List (List UInt8)->Nat->Bool->Bool
 | [],_,_=>true
 | x::xs,n,wild=>if wild||decide (8<n+1) then false else if x = [42] then cV xs (n+1) true else if bT x then cV xs (n+1) false else false
def ao(l:List UInt8):Bool:=if l = [46] then true else if 60<l.length then false else cV (aR l).reverse 0 false
theorem ID{l y:List UInt8}(h:y∈aR l):y.length<=l.length:=by
 induction l generalizing y with
 | nil=>simp[aR] at h;subst h;simp
 | cons c r ih=>
  unfold aR at h;split at h
  ·rcases List.mem_cons.1 h with e | e
   ·subst e;simp
   ·have:=ih e;simp;omega
  ·split at h
   ·rename_i x xs hx;rcases List.mem_cons.1 h with e | e
    ·subst e;have:=ih (y:=x) (by rw[hx];simp);simp;omega
    ·have:=ih (y:=y) (by rw[hx];simp[e]);simp;omega
   ·simp at h;subst h;simp
theorem sr{l y:List UInt8}(h:y∈ar l):y.length<=l.length:=by
 unfold ar at h;split at h
 ·cases h
 ·exact ID (List.mem_reverse.1 h)
def qQ(c:UInt8):Bool:=qd c||oR c||c == 32
def lj(l:List UInt8):Bool:=decide (1<=l.length)&&decide (l.length<=40)&&!(l.head? == some 32)&&!(l.getLast? == some 32)&&l.all qQ
def gu(l:List UInt8):Bool:=l.head? == some 42
structure Rule where
 text:Int
 leastN:Int
 mostN:Int
 leastM:Int
 mostM:Int
 even:Bool
 single:Bool
 wild:Bool
structure Datum where
 text:List UInt8
 n:Int
 m:Int
deriving DecidableEq
def vu(k:Int)(l:List UInt8):Bool:=if k=1 then ao l&&!gu l else if k=2 then ao l else if k=3 then lj l else l == []
def lE(r:Rule)(d:Datum):Bool:=
 (decide (r.leastN<=d.n)&&decide (d.n<=r.mostN))&&(decide (r.leastM<=d.m)&&decide (d.m<=r.mostM))&&!(r.even&&(d.n.tmod 2 != 0))&&vu r.text d.text
def cW(a b:List UInt8):Int:=if Go.Op.bytesLess a b then -1 else if a=b then 0 else 1
def ma(a b:Int):Int:=if a<b then -1 else if b<a then 1 else 0
def yO(a b:Datum):Int:=if cW a.text b.text≠0 then cW a.text b.text else if ma a.n b.n≠0 then ma a.n b.n else ma a.m b.m
def DR:List Rule:=[⟨0,0,0,0,0,false,false,false⟩,⟨0,1,1000000,0,0,false,false,true⟩,⟨1,0,0,0,0,false,false,false⟩,⟨1,0,0,0,0,false,true,false⟩,⟨0,0,65535,0,100000,false,true,false⟩,
 ⟨3,0,0,0,0,false,false,true⟩,⟨0,1,1000000,1,3,false,false,false⟩,⟨0,1,1000000,1,3,false,false,false⟩,⟨2,2,510,0,0,true,false,true⟩]
def dF(k:Int):Rule:=DR.getD k.toNat ⟨0,0,0,0,0,false,false,false⟩
structure DSet where
 name:List UInt8
 type:Int
 life:Int
 data:List Datum
deriving DecidableEq
def iW(r:Rule):Option Datum->List Datum->Bool
 | _,[]=>true
 | p,d::ds=>lE r d&&(match p with | none=>true | some q=>decide (yO q d<0))&&iW r (some d) ds
def bo(s:DSet):Bool:=
 ao s.name&&(decide (1<=s.type)&&decide (s.type<=8))&&(decide (0<=s.life)&&decide (s.life<=100000))&&(decide (1<=s.data.length)&&decide (s.data.length<=8)) &&
 !((dF s.type).single&&decide (s.data.length≠1))&&!(gu s.name&&!(dF s.type).wild)&&iW (dF s.type) none s.data
theorem XL{r:Rule}{p:Option Datum}{ds:List Datum}{j:Nat}{d:Datum}(hd:ds[j]?=some d)(h:lE r d=false):iW r p (ds.drop j)=false:=by
 rw[sQ (cQ.1 hd).1,(cQ.1 hd).2];simp[iW,h]
theorem XM{r:Rule}{ds:List Datum}{d:Datum}(hd:ds[0]?=some d)(h:lE r d=true):iW r (ds.take 0).getLast? (ds.drop 0)=iW r (ds.take 1).getLast? (ds.drop 1):=by
 cases ds with
 | nil=>simp at hd
 | cons x r=>simp at hd;subst hd;simp[iW,h]
theorem XN{r:Rule}{ds:List Datum}{j:Nat}{q d:Datum}(hq:ds[j]?=some q)(hd:ds[j+1]?=some d)(h:lE r d=true) :
 iW r (ds.take (j+1)).getLast? (ds.drop (j+1))=if yO q d<0 then iW r (ds.take (j+1+1)).getLast? (ds.drop (j+1+1)) else false:=by
 have h1:=(cQ.1 hq);have h2:=(cQ.1 hd);rw[sQ h2.1,h2.2,fQ h1.1,h1.2,fQ h2.1,h2.2];simp only[List.getLast?_append,List.getLast?_singleton,Option.some_or,iW,h];split<;>rename_i hc<;>simp[hc]
end Np
section
open Go.RowKit
theorem PC(c:UInt8):Np.mD c=decide ((97<=(c.toNat:Int)/\(c.toNat:Int)<=122)\/(48<=(c.toNat:Int)/\(c.toNat:Int)<=57)\/(c.toNat:Int)=45):=by
 have h:=pd c 45 (by decide);unfold Np.mD Np.qd Np.oR;rw[show (45:UInt8)=UInt8.ofNat 45 from rfl,h,Bool.eq_iff_iff];simp[UInt8.le_iff_toNat_le];omega
theorem acY(s:ByteArray)(h:(s.size:Int)<1):Np.bT s.data.toList=false:=by
 have:¬ 1<=s.size:=by omega
 simp[Np.bT,this]
theorem adQ(s:ByteArray)(h:12<(s.size:Int)):Np.bT s.data.toList=false:=by
 have:¬ s.size<=12:=by omega
 simp[Np.bT,this]
theorem adZ(s:ByteArray)(h0:0<s.size)(h:(s[0].toNat:Int)=45):Np.bT s.data.toList=false:=by
 have e:=pd s[0] 45 (by decide);rw[uQ (by simpa using h)] at e;have e2:s[0]=(45:UInt8):=by simpa using e
 simp[Np.bT,CT s h0,e2]
theorem adJ(s:ByteArray)(h0:s.size - 1<s.size)(h:(s[s.size - 1].toNat:Int)=45):Np.bT s.data.toList=false:=by
 have e:=pd s[s.size - 1] 45 (by decide);rw[uQ (by simpa using h)] at e;have e2:s[s.size - 1]=(45:UInt8):=by simpa using e
 simp[Np.bT,DE s h0,e2]
theorem adK(s:ByteArray)(k:Nat)(hk:k<s.size)(h:Np.mD s[k]=false):Np.bT s.data.toList=false:=by
 have:s.data.toList.all Np.mD=false:=by
  rw[List.all_eq_false];exact⟨s[k],by rw[<-cQ.1 (wo s k hk) |>.2];exact List.getElem_mem _,by simp[h]⟩
 simp[Np.bT,this]
theorem adX(s:ByteArray)(h1:1<=s.size)(h2:s.size<=12)(h3:¬ (s[0].toNat:Int)=45)(h4:¬ (s[s.size - 1].toNat:Int)=45)(h5:s.data.toList.all Np.mD=true):Np.bT s.data.toList=true:=by
 have e:=pd s[0] 45 (by decide);have e':=pd s[s.size - 1] 45 (by decide);rw[tQ (by simpa using h3)] at e;rw[tQ (by simpa using h4)] at e';have e2:¬ s[0]=(45:UInt8):=by simpa using e
 have e3:¬ s[s.size - 1]=(45:UInt8):=by simpa using e'
 simp[Np.bT,DE s (by omega),CT s (by omega),e2,e3,h5,h1,h2]
theorem LU(s:ByteArray)(k:Nat)(h:k<s.size)(p:UInt8->Bool)(h1:(s.data.toList.take k).all p=true)(h2:p s[k]=true):(s.data.toList.take (k+1)).all p=true:=by
 rw[IJ s k h,List.all_append,h1];simp[h2]
theorem xy(s:ByteArray)(hs:s.size<=140737488355328)(w:World) :
 Calls prog 188 #[.string s] w (aUZ w (.bool (Np.bT s.data.toList))):=by
 go_enter func188,ntmps188;go_wp2
 ·go_ret;exact⟨aw (acY s ‹_›).symm,rfl⟩
 ·go_ret;exact⟨aw (adQ s ‹_›).symm,rfl⟩
 ·go_ret;exact⟨aw (adZ s ‹_› ‹_›).symm,rfl⟩
 ·have h:((s[s.size - 1].toNat:Int) == 45)=true:=by assumption
  go_ret;exact⟨aw (adJ s (by omega) (by simpa using h)).symm,rfl⟩
 ·have h1:1<=(s.size:Int):=by assumption
  have h2:(s.size:Int)<=12:=by assumption
  have h3:¬ (s[0].toNat:Int)=45:=by assumption
  have h4:((s[s.size - 1].toNat:Int) == 45)=false:=by assumption
  have H4:=jq h4;clear h4;have H3:=jq h3;go_loop [28] (λi=>∃ k:Nat,k<=s.size/\i = .int .i64 k/\(s.data.toList.take k).all Np.mD=true) (λi=>s.size - (intOf i).toNat)
  case atStart=>exact⟨0,jQ _,rfl,rfl⟩
  case round=>
   obtain⟨k,hk,rfl,ha⟩:=hrel;have HA:=jq ha;clear ha;by_cases af:k<s.size
   ·have hb:=AN s[k];go_wp2
    all_goals first
     | (have hne:((s[k].toNat:Int) != 45)=true:=by assumption
        have GR:=bne_iff_ne.1 hne;go_ret;exact⟨aw (adK s k af (by rw[PC];exact aSJ)).symm,rfl⟩)
     | (have hl:Np.mD s[k]=true:=by
         rw[PC];refine uQ ?_
         first
          | omega
          | (have hne:((s[k].toNat:Int) != 45)=false:=by assumption
             have GR:(s[k].toNat:Int)=45:=by simpa using hne
             omega)
        go_round
        case rel=>exact⟨k+1,by omega,by go_num,LU s k af _ HA.out hl⟩
        case measure=>simp[intOf]<;>omega)
   ·go_wp2;go_ret;exact⟨aw (adX s (by omega) (by omega) H3.out (by simpa using H4.out) (by have:=HA.out;rwa [II s k (by omega)] at this)).symm,rfl⟩
theorem aFX(c:Int)(h0:0<=c)(h1:c<=255)(x:UInt8):x=UInt8.ofNat c.toNat↔(x.toNat:Int)=c:=by
 have h:=pd x c.toNat (by omega);rw[Bool.eq_iff_iff] at h;simp only[beq_iff_eq,Qa] at h;rw[h];omega
theorem aiQ(s:ByteArray)(c:UInt8)(h:c∉s.data.toList.drop 0):Np.Fi s.data.toList c (-1):=.inl ⟨rfl,by simpa using h⟩
theorem aiZ(s:ByteArray)(c:UInt8)(k:Nat)(hk:k<s.size)(h:c∉s.data.toList.drop (k+1))(hc:s[k]=c):Np.Fi s.data.toList c (k:Int):=by
 refine .inr ⟨s.data.toList.take k,s.data.toList.drop (k+1),?_,h,?_⟩
 ·subst hc;rw[show s[k]=s.data.toList[k]'(by rw[be];exact hk) from rfl,<-sQ,List.take_append_drop]
 ·simp;have:=be s;simp at this;omega
theorem WW(s:ByteArray)(c:UInt8)(k:Nat)(hk:k<s.size)(h:c∉s.data.toList.drop (k+1))(hc:¬ s[k]=c):c∉s.data.toList.drop k:=by
 rw[sQ (by rw[be];exact hk)];intro hm;rcases List.mem_cons.1 hm with e | e
 ·exact hc e.symm
 ·exact h e
def Jd(s:ByteArray)(c:UInt8)(w:World)(e:Ending)(w':World):Prop:=∃ r:Int,Np.Fi s.data.toList c r/\e = .returned (.int .i64 r)/\w=w'
theorem aiJ(s:ByteArray)(hs:s.size<=140737488355328)(c:Int)(h0:0<=c)(h1:c<=255)(w:World) :
 Calls prog 284 #[.string s,.int .u8 c] w (Jd s (UInt8.ofNat c.toNat) w):=by
 go_enter func284,ntmps284;go_wp2;go_loop [5] (λi=>∃ k:Int,-1<=k/\k<s.size/\i = .int .i64 k/\Hid (UInt8.ofNat c.toNat∉s.data.toList.drop (k+1).toNat)) (λi=>(intOf i+1).toNat)
 case atStart=>exact⟨_,by omega,by omega,rfl,jq (by rw[List.drop_eq_nil_of_le (by rw[be];omega)];simp)⟩
 case round=>
  obtain⟨k,dS,dp,rfl,H⟩:=hrel;by_cases af:0<=k
  ·obtain⟨j,rfl⟩:=Int.eq_ofNat_of_zero_le af;have hj:j<s.size:=by omega
   have hb:=AN s[j];have hd:=aFX c h0 h1 s[j];have HD:=jq hd;clear hd;go_wp2
   all_goals first
    | (have he:((s[j].toNat:Int) == c)=true:=by assumption
       go_ret;exact⟨j,aiZ s _ j hj (by simpa using H.out) (HD.out.2 (by simpa using he)),rfl,rfl⟩)
    | (have he:((s[j].toNat:Int) == c)=false:=by assumption
       go_round
       case rel=>exact⟨(j:Int) - 1,by omega,by omega,rfl,jq (by have:=WW s _ j hj (by simpa using H.out) (λe=>by have:=HD.out.1 e;simp[this] at he);simpa using this)⟩
       case measure=>simp[intOf]<;>omega)
  ·obtain rfl:k = -1:=by omega
   go_wp2;go_ret;exact⟨-1,aiQ s _ (by simpa using H.out),rfl,rfl⟩
theorem DD(s:ByteArray)(hs:s.size<=140737488355328)(c:Int)(h0:0<=c)(h1:c<=255)(w:World) :
 Calls prog 251 #[.string s,.int .u8 c] w (Jd s (UInt8.ofNat c.toNat) w):=by
 go_enter func251,ntmps251;go_wp2_with (go_at_call 284;refine (aiJ _ hs _ h0 h1 _).mono ?_;rintro e w' ⟨r,hr,rfl,rfl⟩);go_ret;exact⟨r,hr,rfl,rfl⟩
structure ItStep(B:Nat)(S:Nat->Prop)(W W':World):Prop where
 os:W'.os=W.os
 tape:W'.tape=W.tape
 output:W'.output=W.output
 size:W.heap.size<=W'.heap.size
 keep:∀ k,k<W.heap.size->(k<B\/S k)->W'.heap[k]?=W.heap[k]?
structure RdStep(S:Nat->Prop)(W W':World):Prop where
 os:W'.os=W.os
 tape:W'.tape=W.tape
 output:W'.output=W.output
 size:W.heap.size<=W'.heap.size
 keep:∀ k,k<W.heap.size->¬ S k->W'.heap[k]?=W.heap[k]?
theorem ItStep.refl(B:Nat)(S:Nat->Prop)(W:World):ItStep B S W W:=⟨rfl,rfl,rfl,bQ _,λ_ _ _=>rfl⟩
theorem RdStep.refl(S:Nat->Prop)(W:World):RdStep S W W:=⟨rfl,rfl,rfl,bQ _,λ_ _ _=>rfl⟩
theorem ItStep.trans{B:Nat}{S:Nat->Prop}{A W C:World}(h:ItStep B S A W)(k:ItStep B S W C):ItStep B S A C:=
 ⟨k.os.trans h.os,k.tape.trans h.tape,k.output.trans h.output,yQ h.size k.size,λi hi hs=>(k.keep i (lqQ hi h.size) hs).trans (h.keep i hi hs)⟩
theorem RdStep.trans{S S':Nat->Prop}{A W C:World}(h:RdStep S A W)(k:RdStep S' W C)(hS:∀ i,S' i->S i\/A.heap.size<=i):RdStep S A C:=
 ⟨k.os.trans h.os,k.tape.trans h.tape,k.output.trans h.output,yQ h.size k.size,λi hi hs=>
  (k.keep i (lqQ hi h.size) (λe=>by rcases hS i e with e | e;exact hs e;omega)).trans (h.keep i hi hs)⟩
theorem RdStep.mono{S S':Nat->Prop}{A W:World}(h:RdStep S A W)(hS:∀ i,S i->S' i):RdStep S' A W:=
 ⟨h.os,h.tape,h.output,h.size,λi hi hs=>h.keep i hi (λe=>hs (hS i e))⟩
theorem ItStep.of_below{B:Nat}{S:Nat->Prop}{A W:World}(h:Below A.heap.size A W):ItStep B S A W:=
 ⟨h.os,h.tape,h.output,h.size,λk hk _=>h.block k hk⟩
theorem RdStep.of_below{S:Nat->Prop}{A W:World}(h:Below A.heap.size A W):RdStep S A W:=
 ⟨h.os,h.tape,h.output,h.size,λk hk _=>h.block k hk⟩
theorem RdStep.below{S:Nat->Prop}{A W:World}{n:Nat}(h:RdStep S A W)(hn:n<=A.heap.size)(hS:∀ k,S k->n<=k):Below n A W:=
 ⟨h.os,h.tape,h.output,h.size,λk hk=>h.keep k (by omega) (λe=>by have:=hS k e;omega)⟩
theorem RdStep.setCell{S:Nat->Prop}{A W:World}(h:RdStep S A W){p:Addr}(hp:S p.block\/A.heap.size<=p.block)(u:Value):RdStep S A (W.setCell p u):=
 ⟨h.os,h.tape,h.output,by simpa [World.setCell] using h.size,λk hk hs=>(wQ _ _ _ _ (by rintro rfl;rcases hp with hp | hp;exact hs hp;omega)).trans (h.keep k hk hs)⟩
theorem RdStep.alloc{S:Nat->Prop}{A W:World}(h:RdStep S A W)(o:Obj):RdStep S A (W.alloc o):=
 ⟨h.os,h.tape,h.output,yQ h.size (by simp),λk hk hs=>(Below.heap_alloc _ _ _ (lqQ hk h.size)).trans (h.keep k hk hs)⟩
theorem RdStep.drew{S:Nat->Prop}{A W:World}(h:RdStep S A W):RdStep S A W.drew:=⟨h.os,h.tape,h.output,h.size,h.keep⟩
theorem RdStep.grown{S:Nat->Prop}{A W C:World}{row:Option Nat}(h:RdStep S A W)(hg:W.grownBy C row)(hr:∀ k,row=some k->S k\/A.heap.size<=k):RdStep S A C:=
 ⟨hg.os.trans h.os,hg.tape.trans h.tape,hg.output.trans h.output,yQ h.size hg.size,λk hk hs=>
  (hg.block k (lqQ hk h.size) (λe=>by rcases hr k e.symm with e' | e';exact hs e';omega)).trans (h.keep k hk hs)⟩
def fN{β:Type}(B:Nat)(J:β->(Nat->Prop)->World->Prop):Prop:=∀ s S W W',J s S W->ItStep B S W W'->J s S W'
def yJ{α:Type}(J Jx:List α->(Nat->Prop)->World->Prop)(pre:List α)(x:α)(S:Nat->Prop)(W:World)(e:Ending)(W':World):Prop:=
 ∃ S':Nat->Prop,RdStep S W W'/\(∀ k,S' k->S k\/W.heap.size<=k)/\(∀ k,S' k->k<W'.heap.size)/\
   ((e = .returned (.bool true)/\J (pre ++ [x]) S' W')\/(e = .returned (.bool false)/\Jx (pre ++ [x]) S' W'))
def tX{α:Type}(P:Program)(gf:FuncId)(mk:Value->Array Value)(encs:α->Array Value)(xs:List α)(n₀:Nat)(w:World):Prop:=
 ∀ (l:Nat) (J Jx:List α->(Nat->Prop)->World->Prop) (S:Nat->Prop) (W:World),Below n₀ w W->
   fN W.heap.size J->fN W.heap.size Jx->
   (∀ pre x S1 W1,pre ++ [x] <+: xs->J pre S1 W1->(∀ k,S1 k->k<W1.heap.size)->W.heap.size<=W1.heap.size->
     YieldAt Fence.wide 0 P l (encs x) W1 (yJ J Jx pre x S1 W1))->
   (∀ k,S k->n₀<=k)->(∀ k,S k->k<W.heap.size)->J [] S W->
   CallsIn Fence.wide 0 P gf (mk (.func (.yield l) #[] #[])) W λe W'=>(∃ v,e = .returned v)/\
    ((∃ S',J xs S' W'/\(∀ k,S' k->S k\/W.heap.size<=k))\/(∃ pre S',pre <+: xs/\Jx pre S' W'/\(∀ k,S' k->S k\/W.heap.size<=k)))
def ic{α:Type}(I:List α->(Nat->Prop)->World->Prop)(Ix:Code->List α->(Nat->Prop)->World->Prop)(xs:List α)(S:Nat->Prop)(W:World):Exit->Act->World->Prop
 | .normal,_,W'=>∃ S',RdStep S W W'/\(∀ k,S' k->S k\/W.heap.size<=k)/\(∀ k,S' k->k<W'.heap.size)/\I xs S' W'
 | .ret,_,W'=>∃ S',RdStep S W W'/\(∀ k,S' k->S k\/W.heap.size<=k)/\(∀ k,S' k->k<W'.heap.size)/\Ix .ret xs S' W'
 | .exit id,_,W'=>∃ S',RdStep S W W'/\(∀ k,S' k->S k\/W.heap.size<=k)/\(∀ k,S' k->k<W'.heap.size)/\Ix (.exit id) xs S' W'
 | _,_,_=>False
theorem mB{B:Nat}{S:Nat->Prop}{W:World}{l:Nat}(o:Obj)(hl:B<=l)(hS:¬ S l):ItStep B S W (W.putObj l o):=
 ⟨rfl,rfl,rfl,by simp,λk _ hk=>zQ (by rintro rfl;rcases hk with hk | hk;omega;exact hS hk)⟩
theorem qe{B:Nat}{S:Nat->Prop}{W:World}(o:Obj):ItStep B S W (W.alloc o):=
 ⟨rfl,rfl,rfl,by simp,λk hk _=>Below.heap_alloc _ _ _ hk⟩
theorem ItStep.weaken{B B':Nat}{S S':Nat->Prop}{W W':World}(h:ItStep B S W W')(hB:B'<=B)(hS:∀ k,S' k->S k):ItStep B' S' W W':=
 ⟨h.os,h.tape,h.output,h.size,λk hk hs=>h.keep k hk (hs.imp (λe=>by omega) (hS k))⟩
theorem I3{α:Type}{P:Program}{g:Operand}{ps:Array Tmp}{assign body:Code}{Q:Exit->Act->World->Prop}{a:Act}{w:World}
 {gf:FuncId} {first captured:Array Value} (hg:a.eval g = .func (.func gf) first captured) (eg:∀ args w,(callFunc gf args).run P w = .ok (.enter gf args) w)
 {mk:Value->Array Value} {encs:α->Array Value} {xs:List α} {n₀:Nat} {w0:World} (gH:∀ y,mk y=first ++ #[y]++captured)
 (hit:tX P gf mk encs xs n₀ w0) (cF:Below n₀ w0 w) (nD:n₀<=w.heap.size) (ej:∀ x,(encs x).size=ps.size)
 (I:List α->(Nat->Prop)->World->Prop) (Ix:Code->List α->(Nat->Prop)->World->Prop) (A:List α->α->(Nat->Prop)->Act->World->Prop)
 (hI:fN w.heap.size I) (fg:∀ c,fN w.heap.size (Ix c)) (hA:∀ pre x S a' W W',A pre x S a' W->ItStep w.heap.size S W W'->A pre x S a' W')
 (S0:Nat->Prop) (kO:∀ k,S0 k->n₀<=k) (gl:∀ k,S0 k->k<w.heap.size) (h0:I [] S0 w)
 (uv:∀ (l:Nat) (pre:List α) (x:α) (S:Nat->Prop) (W:World),pre ++ [x] <+: xs->I pre S W->(∀ k,S k->k<W.heap.size)->
   assign.wpIn (Fence.wide.inRound l) 0 P (Exit.then (λa₁ W₁=>∃ S',RdStep S W W₁/\(∀ k,S' k->S k\/W.heap.size<=k)/\(∀ k,S' k->k<W₁.heap.size)/\A pre x S' a₁ W₁) (λ_ _ _=>False))
    { tmps:=(ps.zip (encs x)).foldl (λt (p,v)=>t.setIfInBounds p v) a.tmps,defers:=[] } W)
 (uz:∀ (l:Nat) (pre:List α) (x:α) (S:Nat->Prop) (a₁:Act) (W:World),pre ++ [x] <+: xs->A pre x S a₁ W->(∀ k,S k->k<W.heap.size)->
   body.wpIn (Fence.wide.inRound l) 0 P (ic I Ix (pre ++ [x]) S W) a₁ W)
 (kU:∀ (D:Nat) (S:Nat->Prop) (W:World),w.heap.size<=D->¬ S D->(∀ k,S k->S0 k\/w.heap.size<=k)->I xs S W->W.heap[D]?=some (.deferred (some []))->
   Q .normal { a with defers:={ target:=.collected D,args:=#[] } :: a.defers } W)
 (lh:∀ (D:Nat) (c:Code) (pre:List α) (S:Nat->Prop) (W:World),w.heap.size<=D->¬ S D->(∀ k,S k->S0 k\/w.heap.size<=k)->pre <+: xs->Ix c pre S W->W.heap[D]?=some (.deferred (some []))->
   c.wpIn Fence.wide 0 P Q { a with defers:={ target:=.collected D,args:=#[] } :: a.defers } W) :
 (Code.rangeFunc g ps assign body).wpIn Fence.wide 0 P Q a w:=by
 refine wpIn_rangeFunc ?_;intro fn mV;show ∃ (l:Nat) (mark:List Deferred) (w₁:World) (d:Deferred) (w₁':World) (f:FuncId) (args:Array Value) (w₂:World),(Instr.enterLoop fn a.tmps ps assign body none).run P w = .ok (l,mark) w₁/\_;obtain⟨rec,dh⟩:∃ rec:LoopState->Option Code->Loop,rec=λst pe=>{ state:=st,pending:=pe,fn,tmps:=a.tmps,params:=ps,assign,body,defers:=w.heap.size }:=⟨_,rfl⟩;obtain⟨W1,dl⟩:=aRZ ((w.alloc (.deferred (some []))).alloc (.loop (rec .ready none)));have au:W1.heap.size=w.heap.size+2:=by rw[<-dl];simp
 have pK:W1.heap[w.heap.size+1]?=some (.loop (rec .ready none)):=by
  rw[<-dl];have:=World.alloc_heap_new (w.alloc (.deferred (some []))) (.loop (rec .ready none));rwa [World.size_alloc] at this
 have um:W1.heap[w.heap.size]?=some (.deferred (some [])):=by
  rw[<-dl];exact (Below.heap_alloc _ _ _ (by simp)).trans (World.alloc_heap_new w _)
 have mO:I [] S0 W1:=by rw[<-dl];exact hI _ _ _ _ (hI _ _ _ _ h0 (qe _)) (qe _)
 have ay:Below n₀ w0 W1:=by
  rw[<-dl];exact cF.trans ((((vQ _ w).alloc (bQ _) _).alloc (by simp) _).mono nD)
 refine⟨w.heap.size+1,[{ target:=.collected w.heap.size,args:=#[] }],W1,{ target:=.fn (.func gf) captured,args:=first ++ #[.func (.yield (w.heap.size+1)) #[] #[]] },W1,gf,
  first ++ #[.func (.yield (w.heap.size+1)) #[] #[]]++captured,W1,?_,?_,?_,?_,λh=>by simp[Fence.wide] at h,?_⟩
 ·rw[<-dl,dh];exact run_enterLoop_outer _ _ _ _ _
 ·simp only[resolve,hg];simp[go_sem]
 ·intro f' _;trivial
 ·simp[invoke,go_sem,eg]
 ·rw[<-gH];have key:=hit (w.heap.size+1)
   (λpre Si W=>∃ S:Nat->Prop,(∀ k,Si k↔S k\/k=w.heap.size+1)/\(¬ S w.heap.size)/\(¬ S (w.heap.size+1))/\(∀ k,S k->S0 k\/w.heap.size<=k)/\I pre S W/\W.heap[w.heap.size+1]?=some (.loop (rec .ready none))/\W.heap[w.heap.size]?=some (.deferred (some [])))
   (λpre Si W=>∃ (S:Nat->Prop) (c:Code),(∀ k,Si k↔S k\/k=w.heap.size+1)/\(¬ S w.heap.size)/\(¬ S (w.heap.size+1))/\(∀ k,S k->S0 k\/w.heap.size<=k)/\Ix c pre S W/\W.heap[w.heap.size+1]?=some (.loop (rec .done (some c)))/\W.heap[w.heap.size]?=some (.deferred (some [])))
   (λk=>S0 k\/k=w.heap.size+1) W1 ay ?_ ?_ ?_ ?_ ?_ ?_
  ·refine key.mono ?_;rintro e W2 ⟨⟨v,rfl⟩,(⟨S',⟨S,bV,hD,hL,aP,hi,hl,hk⟩,_⟩ | ⟨pre,S',gU,⟨S,c,bV,hD,hL,aP,hi,hl,hk⟩,_⟩)⟩
   ·refine⟨none,_,by have:=run_endLoop (P:=P) hl (by rw[dh];simp);rw[dh] at this;exact this,?_⟩;exact kU _ S _ (bQ _) hD aP (hI _ _ _ _ hi (mB _ (by omega) hL)) ((zQ (by omega)).trans hk)
   ·refine⟨some c,_,by have:=run_endLoop (P:=P) hl (by rw[dh];simp);rw[dh] at this;exact this,?_⟩;exact lh _ c pre S _ (bQ _) hD aP gU ((fg c) _ _ _ _ hi (mB _ (by omega) hL)) ((zQ (by omega)).trans hk)
  ·rintro pre Si A1 B1 ⟨S,bV,hD,hL,aP,hi,hl,hk⟩ aq;have af:w.heap.size+1<A1.heap.size:=(eQ.1 hl).1;exact⟨S,bV,hD,hL,aP,hI _ _ _ _ hi (aq.weaken (by omega) (λk e=>(bV k).2 (.inl e))),(aq.keep _ af (.inl (by omega))).trans hl,(aq.keep _ (by omega) (.inl (by omega))).trans hk⟩
  ·rintro pre Si A1 B1 ⟨S,c,bV,hD,hL,aP,hi,hl,hk⟩ aq;have af:w.heap.size+1<A1.heap.size:=(eQ.1 hl).1;exact⟨S,c,bV,hD,hL,aP,fg c _ _ _ _ hi (aq.weaken (by omega) (λk e=>(bV k).2 (.inl e))),(aq.keep _ af (.inl (by omega))).trans hl,(aq.keep _ (by omega) (.inl (by omega))).trans hk⟩
  ·
   rintro pre x Si W bw ⟨S,bV,hD,hL,aP,hi,hl,hk⟩ dz us;have af:w.heap.size+1<W.heap.size:=(eQ.1 hl).1;have ur:∀ k,S k->k<W.heap.size:=λk e=>dz k ((bV k).2 (.inl e));have hy:=run_yield (P:=P) (args:=encs x) hl (by rw[dh];exact ej x);rw[dh] at hy;refine⟨fn,_,assign,body,hy,roundIn_of_wpIn mV (wpIn_mono (uv _ pre x S W bw hi ur) ?_)⟩;intro e a1 Wa hq
   cases e with
   | normal=>
    obtain⟨S1,cG,bp,rg,ui⟩:=hq;have oB:¬ S1 w.heap.size:=λe=>by rcases bp _ e with e | e;exact hD e;omega
    have kX:¬ S1 (w.heap.size+1):=λe=>by rcases bp _ e with e | e;exact hL e;omega
    have ke:Wa.heap[w.heap.size+1]?=some (.loop (rec .ready none)):=(cG.keep _ af hL).trans hl;have mW:Wa.heap[w.heap.size]?=some (.deferred (some [])):=(cG.keep _ (by omega) hD).trans hk;have oz:w.heap.size+1<Wa.heap.size:=(eQ.1 ke).1;refine⟨_,run_beginRound ke (by rw[dh]),?_⟩;have hb:=uz (w.heap.size+1) pre x S1 a1 (Wa.putObj (w.heap.size+1) (.loop { rec .ready none with state:=.busy })) bw (hA _ _ _ _ _ _ ui (mB _ (by omega) kX)) (λk e=>by simpa using rg k e);refine wpIn_mono hb ?_;have fin:∀ (jump:Option Code) (W3:World) (S3:Nat->Prop),RdStep S1 (Wa.putObj (w.heap.size+1) (.loop { rec .ready none with state:=.busy })) W3->(∀ k,S3 k->S1 k\/(Wa.putObj (w.heap.size+1) (.loop { rec .ready none with state:=.busy })).heap.size<=k)->(∀ k,S3 k->k<W3.heap.size)->
     (Instr.endRound (w.heap.size+1) jump).run P W3 = .ok (.bool jump.isNone) (W3.putObj (w.heap.size+1) (.loop (rec (if jump.isNone then .ready else .done) jump)))/\
     (W3.putObj (w.heap.size+1) (.loop (rec (if jump.isNone then .ready else .done) jump))).heap[w.heap.size+1]?=some (.loop (rec (if jump.isNone then .ready else .done) jump))/\
     (W3.putObj (w.heap.size+1) (.loop (rec (if jump.isNone then .ready else .done) jump))).heap[w.heap.size]?=some (.deferred (some []))/\
     ¬ S3 w.heap.size/\¬ S3 (w.heap.size+1)/\(∀ k,S3 k->S k\/W.heap.size<=k)/\
     RdStep Si W (W3.putObj (w.heap.size+1) (.loop (rec (if jump.isNone then .ready else .done) jump))):=λjump W3 S3 bN bu bF=>by
     have i5:(Wa.putObj (w.heap.size+1) (.loop { rec .ready none with state:=.busy })).heap[w.heap.size+1]?=some (.loop { rec .ready none with state:=.busy }):=World.putObj_heap_same oz;have pR:(Wa.putObj (w.heap.size+1) (.loop { rec .ready none with state:=.busy })).heap[w.heap.size]?=some (.deferred (some [])):=(zQ (by omega)).trans mW;have i6:=(bN.keep _ (by simpa using oz) kX).trans i5;have ox:=(bN.keep _ (by simp;omega) oB).trans pR;have gr:=(eQ.1 i6).1
     have:=run_endRound (P:=P) jump i6
     rw[dh] at this |-;have uW:=bN.size;have oJ:=cG.size;simp only[World.putObj_size] at uW bu;refine⟨this,World.putObj_heap_same gr,(zQ (by omega)).trans ox,λe=>?_,λe=>?_,λk e=>?_,?_⟩
     ·rcases bu _ e with e | e;exact oB e;omega
     ·rcases bu _ e with e | e;exact kX e;omega
     ·rcases bu _ e with e | e
      ·exact bp _ e
      ·right;omega
     ·refine⟨bN.os.trans cG.os,bN.tape.trans cG.tape,bN.output.trans cG.output,by simp;omega,λk hk' oC=>?_⟩;have gG:k≠w.heap.size+1:=λe=>oC ((bV k).2 (.inr e));have oD:¬ S k:=λe=>oC ((bV k).2 (.inl e));have uJ:¬ S1 k:=λe=>by rcases bp _ e with e | e;exact oD e;omega
      exact (zQ gG).trans ((bN.keep k (by simp;omega) uJ).trans ((zQ gG).trans (cG.keep k hk' oD)))
    have fin2:∀ (S3:Nat->Prop) (W3:World) (o:Obj),(∀ k,S3 k->k<W3.heap.size)->W.heap.size<=W3.heap.size->(∀ k,S3 k->S k\/W.heap.size<=k)->
     (∀ k,(S3 k\/k=w.heap.size+1)->Si k\/W.heap.size<=k)/\(∀ k,(S3 k\/k=w.heap.size+1)->k<(W3.putObj (w.heap.size+1) o).heap.size):=λS3 W3 o h1 h2 h3=>
     ⟨λk e=>by rcases e with e | e;exact (h3 k e).imp (λe'=>(bV k).2 (.inl e')) id;exact .inl ((bV k).2 (.inr e)),λk e=>by
      simp only[World.putObj_size];rcases e with e | e
      ·exact h1 k e
      ·omega⟩
    have sub3:∀ (S3:Nat->Prop),(∀ k,S3 k->S k\/W.heap.size<=k)->∀ k,S3 k->S0 k\/w.heap.size<=k:=λS3 h k e=>by
     rcases h k e with e | e
     ·exact aP k e
     ·right;omega
    rintro e a3 W3 hp
    cases e with
    | normal=>
     obtain⟨S3,bN,bu,bF,gq⟩:=hp;obtain⟨hr,fU,eE,eL,dT,cD,aZ⟩:=fin none W3 S3 bN bu bF;have au:W.heap.size<=W3.heap.size:=by simpa using aZ.size
     refine⟨_,_,hr,λk=>S3 k\/k=w.heap.size+1,aZ,(fin2 S3 W3 (.deferred none) bF au cD).1,(fin2 S3 W3 _ bF au cD).2,.inl ⟨rfl,S3,λ_=>Iff.rfl,eL,dT,sub3 S3 cD,hI _ _ _ _ gq (mB _ (by omega) dT),fU,eE⟩⟩
    | ret=>
     obtain⟨S3,bN,bu,bF,gq⟩:=hp;obtain⟨hr,fU,eE,eL,dT,cD,aZ⟩:=fin (some .ret) W3 S3 bN bu bF;have au:W.heap.size<=W3.heap.size:=by simpa using aZ.size
     refine⟨_,_,hr,λk=>S3 k\/k=w.heap.size+1,aZ,(fin2 S3 W3 (.deferred none) bF au cD).1,(fin2 S3 W3 _ bF au cD).2,.inr ⟨rfl,S3,.ret,λ_=>Iff.rfl,eL,dT,sub3 S3 cD,fg _ _ _ _ _ gq (mB _ (by omega) dT),fU,eE⟩⟩
    | exit id=>
     obtain⟨S3,bN,bu,bF,gq⟩:=hp;obtain⟨hr,fU,eE,eL,dT,cD,aZ⟩:=fin (some (.exit id)) W3 S3 bN bu bF;have au:W.heap.size<=W3.heap.size:=by simpa using aZ.size
     refine⟨_,_,hr,λk=>S3 k\/k=w.heap.size+1,aZ,(fin2 S3 W3 (.deferred none) bF au cD).1,(fin2 S3 W3 _ bF au cD).2,.inr ⟨rfl,S3,.exit id,λ_=>Iff.rfl,eL,dT,sub3 S3 cD,fg _ _ _ _ _ gq (mB _ (by omega) dT),fU,eE⟩⟩
    | goto t=>exact hp.elim
    | panic ch=>exact hp.elim
    | outgrown=>exact hp.elim
   | ret=>exact hq.elim
   | exit id=>exact hq.elim
   | goto t=>exact hq.elim
   | panic ch=>exact hq.elim
   | outgrown=>exact hq.elim
  ·rintro k (e | rfl)
   ·exact kO k e
   ·omega
  ·rintro k (e | rfl)
   ·have:=gl k e;omega
   ·omega
  ·exact⟨S0,λ_=>Iff.rfl,λe=>by have:=gl _ e;omega,λe=>by have:=gl _ e;omega,λ_ e=>.inl e,mO,pK,um⟩
theorem eS{B:Nat}{S:Nat->Prop}{W W':World}{b:Nat}{t:TypeId}{v:Value}(h:Boxed W b t v)(hs:ItStep B S W W')(hb:S b):Boxed W' b t v:=(hs.keep b h.lt (.inr hb)).trans h
theorem nt{n B:Nat}{S:Nat->Prop}{w W W':World}(h:Below n w W)(hs:ItStep B S W W')(hB:n<=B)(hn:n<=w.heap.size):Below n w W':=
 ⟨hs.os.trans h.os,hs.tape.trans h.tape,hs.output.trans h.output,yQ h.size hs.size,λk hk=>(hs.keep k (by have:=h.size;omega) (.inl (by omega))).trans (h.block k hk)⟩
theorem mM{n:Nat}{W W':World}{b:Nat}{t:TypeId}{v:Value}(h:Boxed W b t v)(hs:Below n W W')(hb:b<n):Boxed W' b t v:=(hs.block b hb).trans h
theorem bI{W:World}{b:Nat}{t:TypeId}{v:Value}(h:Boxed W b t v){p:Addr}(hp:b≠p.block)(u:Value):Boxed (W.setCell p u) b t v:=(wQ W p u b hp).trans h
theorem pG{P:Program}{fn:Func}{R:Ending->World->Prop}{tmps:Array Value}{w:World}{v:Value}(re:(results fn tmps).run P w = .ok v w)(hR:R (.returned v) w) :
 bodyPostM Fence.wide 0 P fn R .ret { tmps:=tmps,defers:=[] } w:=⟨_,re,hR⟩
theorem iw{P:Program}{fn:Func}{R:Ending->World->Prop}{tmps:Array Value}{W:World}{D:Nat}{v:Value}(hK:W.heap[D]?=some (.deferred (some [])))
 (re:(results fn tmps).run P (W.putObj D (.deferred none)) = .ok v (W.putObj D (.deferred none))) (hR:R (.returned v) (W.putObj D (.deferred none))) :
 bodyPostM Fence.wide 0 P fn R .ret { tmps:=tmps,defers:=[{ target:=.collected D,args:=#[] }] } W:=
 ⟨by simp,.inl ⟨_,_,rfl,run_takeDeferred hK,_,re,hR⟩⟩
theorem ib{n D:Nat}{w W:World}(h:Below n w W)(hD:n<=D)(o:Obj):Below n w (W.putObj D o):=
 ⟨h.os,h.tape,h.output,by simpa using h.size,λk hk=>(zQ (by omega)).trans (h.block k hk)⟩
theorem mN{W:World}{b D:Nat}{t:TypeId}{v:Value}(h:Boxed W b t v)(hD:b≠D)(o:Obj):Boxed (W.putObj D o) b t v:=(zQ hD).trans h
theorem vx{α:Type}{P:Program}{g:Operand}{ps:Array Tmp}{assign body:Code}{Q:Exit->Act->World->Prop}{a:Act}{w:World}
 {gf:FuncId} {first captured:Array Value} (hg:a.eval g = .func (.func gf) first captured) (eg:∀ args w,(callFunc gf args).run P w = .ok (.enter gf args) w)
 {mk:Value->Array Value} {encs:α->Array Value} {xs:List α} {n₀:Nat} {w0:World} (gH:∀ y,mk y=first ++ #[y]++captured)
 (hit:tX P gf mk encs xs n₀ w0) (cF:Below n₀ w0 w) (nD:n₀<=w.heap.size) (ej:∀ x,(encs x).size=ps.size)
 (I:List α->(Nat->Prop)->World->Prop) (Ix:Code->List α->(Nat->Prop)->World->Prop)
 (hI:fN w.heap.size I) (fg:∀ c,fN w.heap.size (Ix c))
 (S0:Nat->Prop) (kO:∀ k,S0 k->n₀<=k) (gl:∀ k,S0 k->k<w.heap.size) (h0:I [] S0 w)
 (uS:∀ (l0:Nat) (pre:List α) (x:α) (S:Nat->Prop) (W:World),pre ++ [x] <+: xs->I pre S W->(∀ k,S k->k<W.heap.size)->
   assign.wpIn (Fence.wide.inRound l0) 0 P (Exit.then (λa₁ W₁=>∃ S',RdStep S W W₁/\(∀ k,S' k->S k\/W.heap.size<=k)/\(∀ k,S' k->k<W₁.heap.size)/\
    ∀ l W₂,ItStep w.heap.size S' W₁ W₂->body.wpIn (Fence.wide.inRound l) 0 P (ic I Ix (pre ++ [x]) S' W₂) a₁ W₂) (λ_ _ _=>False))
    { tmps:=(ps.zip (encs x)).foldl (λt (p,v)=>t.setIfInBounds p v) a.tmps,defers:=[] } W)
 (kU:∀ (D:Nat) (S:Nat->Prop) (W:World),w.heap.size<=D->¬ S D->(∀ k,S k->S0 k\/w.heap.size<=k)->I xs S W->W.heap[D]?=some (.deferred (some []))->
   Q .normal { a with defers:={ target:=.collected D,args:=#[] } :: a.defers } W)
 (lh:∀ (D:Nat) (c:Code) (pre:List α) (S:Nat->Prop) (W:World),w.heap.size<=D->¬ S D->(∀ k,S k->S0 k\/w.heap.size<=k)->pre <+: xs->Ix c pre S W->W.heap[D]?=some (.deferred (some []))->
   c.wpIn Fence.wide 0 P Q { a with defers:={ target:=.collected D,args:=#[] } :: a.defers } W) :
 (Code.rangeFunc g ps assign body).wpIn Fence.wide 0 P Q a w:=
 I3 hg eg gH hit cF nD ej I Ix (λpre x S a₁ W=>∀ l W₂,ItStep w.heap.size S W W₂->body.wpIn (Fence.wide.inRound l) 0 P (ic I Ix (pre ++ [x]) S W₂) a₁ W₂)
  hI fg (λ_ _ _ _ _ _ h hs l W₂ h2=>h l W₂ (hs.trans h2)) S0 kO gl h0 uS (λl _ _ _ _ W _ h _=>h l W (ItStep.refl _ _ _)) kU lh
theorem aTY{n:Nat}{W W':World}{b:Nat}{t:TypeId}{v:Value}(h:Boxed W b t v)(hs:Below n W W')(hb:b<n:=by omega):Boxed W' b t v:=mM h hs hb
end
section
open Go.RowKit Go.Shelf
attribute [local go_sem] Oper.semAt_some
abbrev bl(l:List UInt8):Value:=.string ⟨l.toArray⟩
def IG:Value->Nat
 | .string s=>s.size
 | _=>0
def D5(t:ByteArray)(J:List (List UInt8)->(Nat->Prop)->World->Prop)(S:Nat->Prop)(W:World)(v:Value)(wr:World):Prop:=
 ∃ (pre:List (List UInt8)) (r:ByteArray) (S1:Nat->Prop),v = .string r/\r.size<=140737488355328/\Np.ar t.data.toList=pre++(Np.aR r.data.toList).reverse/\
   J pre S1 wr/\(∀ k,S1 k->k<wr.heap.size)/\W.heap.size<=wr.heap.size/\(∀ k,S1 k->S k\/W.heap.size<=k)
theorem ub(t:ByteArray)(ht:t.size<=140737488355328)(n₀:Nat)(w:World) :
 tX prog 187 (λy=>#[.string t,y]) (λx:List UInt8=>#[bl x]) (Np.ar t.data.toList) n₀ w:=by
 intro l J Jx S W hW hJ F0 hY hS hS' h0;refine callsIn_of_wp func187 rfl trivial ?_ rfl;simp only[ntmps187,List.size_toArray,List.length_cons,List.length_nil,Nat.reduceAdd,Nat.reduceSub,Array.replicate_succ,Array.replicate_zero,List.push_toArray,List.append_toArray,List.nil_append,List.cons_append];gi_wp2_with fail
 ·have he:(t.toList == [46])=true:=by assumption
  have cP:t.data.toList = [46]:=by rw[<-dQ];simpa using he
  have hb:Np.ar t.data.toList = []:=by simp[Np.ar,cP]
  refine bodyPost_ret (results_none rfl _ _ _) rfl ?_;exact⟨⟨_,rfl⟩,.inl ⟨S,by rw[hb];exact h0,λk e=>.inl e⟩⟩
 ·have he:(t.toList == [46])=false:=by assumption
  have hne:¬ t.data.toList = [46]:=by rw[<-dQ];simpa using he
  have hb:Np.ar t.data.toList=(Np.aR t.data.toList).reverse:=by simp[Np.ar,hne]
  have HB:=jq hb;clear hb;gi_loopw [4] (λv wr=>D5 t J S W v wr) (λv _=>IG v)
  case atStart=>exact⟨[],t,S,rfl,ht,by simpa using HB.out,h0,hS',bQ _,λ_ e=>.inl e⟩
  case round=>
   obtain⟨pre,r,S1,rfl,hr,gU,hj,af,au,aP⟩:=hrel;have HP:=jq gU;clear gU;gi_wp2_with fail;refine⟨trivial,rfl,?_⟩;refine (callsIn_wide.2 (DD _ hr _ (by decide) (by decide) _)).mono ?_;rintro e w' ⟨q,hq,rfl,rfl⟩;rcases hq with ⟨rfl,bX⟩ | ⟨a,b,dO,oE,rfl⟩
   ·have bp:Np.aR r.data.toList = [r.data.toList]:=Np.nh bX;have hx:pre ++ [r.data.toList] <+: Np.ar t.data.toList:=by rw[HP.out,bp];exact List.prefix_refl _
    obtain⟨fn,tmps,assign,body,hy,hR⟩:=hY pre r.data.toList S1 wr hx hj af au;have na:Sem.run prog (Instr.yield l #[.string r]) wr = .ok (.round l fn tmps assign body) wr:=hy;clear hy;have HX:=jq hx;clear hx;have HS:=jq bp;clear bp bX;gi_wp2_with fail;refine⟨rfl,hR.mono ?_⟩;rintro e W3 ⟨S3,aZ,ez,gr,(⟨rfl,iy⟩ | ⟨rfl,iz⟩)⟩
    all_goals
     gi_wp2_with fail;refine bodyPost_ret (results_none rfl _ _ _) rfl ?_
    ·refine⟨⟨_,rfl⟩,.inl ⟨S3,?_,λk e=>?_⟩⟩
     ·rw[HP.out,HS.out];exact iy
     ·rcases ez k e with e | e
      ·exact aP k e
      ·right;omega
    ·refine⟨⟨_,rfl⟩,.inr ⟨_,S3,HX.out,iz,λk e=>?_⟩⟩;rcases ez k e with e | e
     ·exact aP k e
     ·right;omega
   ·have i8:a.length+1+b.length=r.size:=by rw[<-be,dO];simp;omega
    have bp:Np.aR r.data.toList=Np.aR a ++ [b]:=by rw[dO];exact (Np.rE a b).trans (by rw[Np.nh oE])
    have hx:pre ++ [b] <+: Np.ar t.data.toList:=by rw[HP.out,bp];simp
    have nI:(r.extract (a.length+1) r.size).data.toList=b:=by rw[uh,dO];simp
    have m8:(r.extract 0 a.length).data.toList=a:=by rw[yU,dO];simp
    have Al:(r.extract 0 a.length).size=a.length:=by rw[<-be,m8]
    obtain⟨fn,tmps,assign,body,hy,hR⟩:=hY pre b S1 wr hx hj af au;have na:Sem.run prog (Instr.yield l #[.string (r.extract (a.length+1) r.size)]) wr = .ok (.round l fn tmps assign body) wr:=by
     have:bl b = .string (r.extract (a.length+1) r.size):=by show Value.string _=_;congr 1;exact mF (by rw[nI])
     simp only[this] at hy;exact hy
    clear hy;have HX:=jq hx;have HS:=jq bp;have HA:=jq m8;have yq:=jq Al;clear hx bp nI m8 Al dO oE;have sL:a.length<=140737488355328:=by omega
    have Gg:a.length+1<=r.size:=by omega
    have H2:=jq i8;clear i8;gi_wp2_with fail;refine⟨rfl,hR.mono ?_⟩;rintro e W3 ⟨S3,aZ,ez,gr,(⟨rfl,iy⟩ | ⟨rfl,iz⟩)⟩
    ·have pZ:=aZ.size;gi_wp2_with fail;go_roundw
     case rel=>
      refine⟨pre ++ [b],r.extract 0 a.length,S3,rfl,by rw[yq.out];exact sL,?_,iy,gr,by omega,λk e=>?_⟩
      ·rw[HP.out,HS.out,HA.out];simp
      ·rcases ez k e with e | e
       ·exact aP k e
       ·right;omega
     case measure=>show (r.extract 0 a.length).size<r.size;rw[yq.out];omega
    ·gi_wp2_with fail;refine bodyPost_ret (results_none rfl _ _ _) rfl ?_;refine⟨⟨_,rfl⟩,.inr ⟨_,S3,HX.out,iz,λk e=>?_⟩⟩;rcases ez k e with e | e
     ·exact aP k e
     ·right;omega
end
section
open Go.RowKit Go.Shelf
attribute [local go_sem] Oper.semAt_some
def dj(pre:List (List UInt8)):Bool:=pre.getLast? == some [42]
def qM(w:World)(xs:List (List UInt8))(pre:List (List UInt8))(S:Nat->Prop)(W:World):Prop:=
 (∀ k,S k↔k=w.heap.size\/k=w.heap.size+1\/k=w.heap.size+1+1)/\Boxed W w.heap.size 4 (.bool false)/\Boxed W (w.heap.size+1) 3 (.int .i64 pre.length)/\Boxed W (w.heap.size+1+1) 4 (.bool (dj pre))/\
 (pre.length<=8/\∀ rest,xs=pre++rest->Np.cV xs 0 false=Np.cV rest pre.length (dj pre))/\Below w.heap.size w W
def qN(w:World)(xs:List (List UInt8))(c:Code)(_:List (List UInt8))(S:Nat->Prop)(W:World):Prop:=
 c = .ret/\(∀ k,S k↔k=w.heap.size\/k=w.heap.size+1\/k=w.heap.size+1+1)/\Boxed W w.heap.size 4 (.bool false)/\Np.cV xs 0 false=false/\Below w.heap.size w W
theorem AP(w:World)(xs:List (List UInt8))(B:Nat)(hB:w.heap.size<=B):fN B (qM w xs):=by
 rintro s S W W' ⟨hS,h1,h2,h3,h4,h5⟩ aq;exact⟨hS,eS h1 aq ((hS _).2 (.inl rfl)),eS h2 aq ((hS _).2 (.inr (.inl rfl))),eS h3 aq ((hS _).2 (.inr (.inr rfl))),h4,nt h5 aq hB (bQ _)⟩
theorem IS(w:World)(xs:List (List UInt8))(B:Nat)(hB:w.heap.size<=B)(c:Code):fN B (qN w xs c):=by
 rintro s S W W' ⟨hc,hS,h1,h4,h5⟩ aq;exact⟨hc,hS,eS h1 aq ((hS _).2 (.inl rfl)),h4,nt h5 aq hB (bQ _)⟩
theorem vr{w:World}{xs pre:List (List UInt8)}{S:Nat->Prop}{W W3:World}{a:Act}(hS:∀ k,S k↔k=w.heap.size\/k=w.heap.size+1\/k=w.heap.size+1+1)
 (hr:RdStep S W W3) (af:∀ k,S k->k<W.heap.size) (c0:Boxed W3 w.heap.size 4 (.bool false)) (hB:Below w.heap.size w W3) (hg:Np.cV xs 0 false=false) :
 ic (qM w xs) (qN w xs) pre S W .ret a (W3.setCell ⟨w.heap.size,0,none⟩ (.bool false)):=
 ⟨S,hr.setCell (.inl ((hS _).2 (.inl rfl))) _,λ_ e=>.inl e,λk e=>by have:=af k e;have:=hr.size;simp[World.setCell];omega,rfl,hS,c0.set _,hg,hB.setCell (bQ _) _⟩
theorem AQ{w:World}{xs pre rest:List (List UInt8)}{x:List UInt8}{S:Nat->Prop}{W W3:World}{a:Act}(hS:∀ k,S k↔k=w.heap.size\/k=w.heap.size+1\/k=w.heap.size+1+1)
 (hr:RdStep S W W3) (af:∀ k,S k->k<W.heap.size) (c0:Boxed W3 w.heap.size 4 (.bool false)) (c1:Boxed W3 (w.heap.size+1) 3 (.int .i64 (pre.length+1))) (c2:Boxed W3 (w.heap.size+1+1) 4 (.bool (x == [42])))
 (hB:Below w.heap.size w W3) (ey:pre ++ [x]++rest=xs) (hl:pre.length+1<=8) (hg:Np.cV xs 0 false=Np.cV rest (pre.length+1) (x == [42])) :
 ic (qM w xs) (qN w xs) (pre ++ [x]) S W .normal a W3:=by
 have hw:dj (pre ++ [x])=(x == [42]):=by simp[dj]
 refine⟨S,hr,λ_ e=>.inl e,λk e=>by have:=af k e;have:=hr.size;omega,hS,c0,by simpa using c1,by rw[hw];exact c2,⟨by simpa using hl,λr h=>?_⟩,hB⟩
 have:r=rest:=List.append_cancel_left (h.symm.trans ey.symm)
 rw[hg,this,hw];simp
theorem jH(t:ByteArray)(ht:t.size<=140737488355328)(w:World) :
 Calls prog 118 #[.string t] w (aUQ w.heap.size w (.bool (Np.ao t.data.toList))):=by
 refine (callsIn_wide (n:=0)).1 ?_;refine callsIn_of_wp_marks func118 rfl trivial ?_ rfl;simp only[ntmps118,List.size_toArray,List.length_cons,List.length_nil,Nat.reduceAdd,Nat.reduceSub,Array.replicate_succ,Array.replicate_zero,List.push_toArray,List.append_toArray,List.nil_append,List.cons_append];gi_wp2_with fail
 ·have he:(t.toList == [46])=true:=by assumption
  have cP:t.data.toList = [46]:=by rw[<-dQ];simpa using he
  exact pG (v:=.bool true) (by simp[results,results118,go_sem]) ⟨by rw[Np.ao,QbQ cP],blAl⟩
 ·have he:(t.toList == [46])=false:=by assumption
  have cP:¬ t.data.toList = [46]:=by rw[<-dQ];simpa using he
  have hl:60<(t.size:Int):=by assumption
  exact pG (v:=.bool false) (by simp[results,results118,go_sem]) ⟨by rw[Np.ao,Qc cP,QbQ (by rw[be];omega)],blAl⟩
 ·have he:(t.toList == [46])=false:=by assumption
  have cP:¬ t.data.toList = [46]:=by rw[<-dQ];simpa using he
  have hl:(t.size:Int)<=60:=by assumption
  have hv:Np.ao t.data.toList=Np.cV (Np.ar t.data.toList) 0 false:=by
   rw[Np.ao,Qc cP,Qc (by rw[be];omega),Np.ar,Qc cP]
  have HV:=jq hv;clear hv;have b0:=Boxed.new w 4 (.bool false);have b1:=Boxed.new (w.alloc (.cells #[.bool false] 4)) 3 (.int .i64 0);have b2:=Boxed.new ((w.alloc (.cells #[.bool false] 4)).alloc (.cells #[.int .i64 0] 3)) 4 (.bool false);simp only[World.size_alloc] at b1 b2;refine vx (n₀:=w.heap.size) (w0:=w) (first:=#[.string t]) (captured:=#[]) (gf:=187) rfl (enters_of func187 (by kernel_rfl) rfl) (mk:=λy=>#[.string t,y]) (λ_=>rfl)
   (ub t ht _ w) ((((vQ _ w).alloc (bQ _) _).alloc (by simp) _).alloc (by simp;omega) _) (by simp;omega) (λ_=>rfl) (qM w (Np.ar t.data.toList)) (qN w (Np.ar t.data.toList))
   (AP _ _ _ (by simp;omega)) (λc=>IS _ _ _ (by simp;omega) c)
   (λk=>k=w.heap.size\/k=w.heap.size+1\/k=w.heap.size+1+1) (by intro k h;omega) (by intro k h;simp;omega)
   ⟨λ_=>Iff.rfl,(b0.alloc _).alloc _,b1.alloc _,b2,⟨by simp,λrest h=>by rw[h];rfl⟩,(((vQ _ w).alloc (bQ _) _).alloc (by simp) _).alloc (by simp;omega) _⟩ ?round ?done ?stop
  case round=>
   rintro l0 pre x S W bw hI dz;gi_wp2;refine⟨S,RdStep.refl _ _,λk e=>.inl e,dz,?_⟩;intro l W₂ aq;obtain⟨hS,c0,c1,c2,hg,hB⟩:=AP w _ _ (by simp;omega) pre S W W₂ hI aq;have c0c:=c0.cell;have c1c:=c1.cell;have c2c:=c2.cell;have c0f:=c0.frozen;have c1f:=c1.frozen;have c2f:=c2.frozen;have hlen:=hg.1;have hx:x∈Np.ar t.data.toList:=bw.subset (by simp);have m9:x.length<=60:=by have:=Np.sr hx;rw[be] at this;omega
   have mz:(⟨x.toArray⟩:ByteArray).size<=140737488355328:=by rw[<-be];simp;omega
   obtain⟨rest,ey⟩:=bw;have fh:Np.cV (Np.ar t.data.toList) 0 false=Np.cV (x::rest) pre.length (dj pre):=hg.2 _ (by rw[<-ey];simp);have HR:=jq ey;have HG:=jq fh;have ol:∀ (b:Nat) (u:Value),w.heap.size<=b->Below w.heap.size w (W₂.setCell ⟨b,0,none⟩ u):=λb u hb=>hB.setCell (p:=⟨b,0,none⟩) hb u;have ft:∀ k,S k->k<W₂.heap.size:=λk e=>lqQ (dz k e) aq.size;clear ey fh hg hx;gi_wp2_with (refine⟨trivial,rfl,?_⟩;gi_at_call 188;refine (CallsIn.inRound l (callsIn_wide.2 (xy _ mz _))).mono ?_;rintro e w' ⟨rfl,rfl⟩)
   ·exact vr hS (RdStep.setCell (RdStep.refl S W₂) (p:=⟨w.heap.size+1,0,none⟩) (.inl ((hS _).2 (.inr (.inl rfl)))) _) ft (bI c0 (p:=⟨w.heap.size+1,0,none⟩) (by simp) _) (ol _ _ (by omega))
     (by rw[HG.out];have:dj pre=true:=by assumption
         simp[Np.cV,this])
   ·exact vr hS (RdStep.setCell (RdStep.refl S W₂) (p:=⟨w.heap.size+1,0,none⟩) (.inl ((hS _).2 (.inr (.inl rfl)))) _) ft (bI c0 (p:=⟨w.heap.size+1,0,none⟩) (by simp) _) (ol _ _ (by omega))
     (by rw[HG.out];have:8<pre.length+1:=by omega
         simp[Np.cV,this])
   ·have d6:x = [42]:=by assumption
    have e:(x == [42])=true:=by simp[d6]
    have mX:(pre.length:Int)+1<=8:=by assumption
    have h1:¬ dj pre=true:=by assumption
    have h2:¬ 8<pre.length+1:=by omega
    refine⟨trivial,?_⟩;gi_wp2;exact AQ hS (RdStep.setCell (RdStep.setCell (RdStep.refl S W₂) (p:=⟨w.heap.size+1,0,none⟩) (.inl ((hS _).2 (.inr (.inl rfl)))) _) (p:=⟨w.heap.size+1+1,0,none⟩) (.inl ((hS _).2 (.inr (.inr rfl)))) _) ft
     (bI (bI c0 (p:=⟨w.heap.size+1,0,none⟩) (by simp) _) (p:=⟨w.heap.size+1+1,0,none⟩) (by simp<;>omega) _)
     (bI (c1.set _) (p:=⟨w.heap.size+1+1,0,none⟩) (by simp<;>omega) _) (by rw[e];exact (bI c2 (p:=⟨w.heap.size+1,0,none⟩) (by simp) _).set _)
     ((ol _ _ (by omega)).setCell (p:=⟨w.heap.size+1+1,0,none⟩) (by simp;omega) _) HR.out (by omega) (by rw[HG.out];simp[Np.cV,h1,h2,d6])
   ·have hl:(!x == [42])=true/\(!Np.bT x)=true:=by assumption
    have d6:¬ x = [42]:=by assumption
    exact vr hS (RdStep.setCell (RdStep.setCell (RdStep.refl S W₂) (p:=⟨w.heap.size+1,0,none⟩) (.inl ((hS _).2 (.inr (.inl rfl)))) _) (p:=⟨w.heap.size+1+1,0,none⟩) (.inl ((hS _).2 (.inr (.inr rfl)))) _) ft
     (bI (bI c0 (p:=⟨w.heap.size+1,0,none⟩) (by simp) _) (p:=⟨w.heap.size+1+1,0,none⟩) (by simp<;>omega) _)
     ((ol _ _ (by omega)).setCell (p:=⟨w.heap.size+1+1,0,none⟩) (by simp;omega) _)
     (by rw[HG.out];have h2:Np.bT x=false:=by simpa using hl.2
         simp[Np.cV,d6,h2])
   ·have hl:(!x == [42])=false\/(!Np.bT x)=false:=by assumption
    have d6:¬ x = [42]:=by assumption
    have e:(x == [42])=false:=by simp[d6]
    have mX:(pre.length:Int)+1<=8:=by assumption
    have h1:¬ dj pre=true:=by assumption
    have h2:¬ 8<pre.length+1:=by omega
    have h3:Np.bT x=true:=by simpa [e] using hl
    exact AQ hS (RdStep.setCell (RdStep.setCell (RdStep.refl S W₂) (p:=⟨w.heap.size+1,0,none⟩) (.inl ((hS _).2 (.inr (.inl rfl)))) _) (p:=⟨w.heap.size+1+1,0,none⟩) (.inl ((hS _).2 (.inr (.inr rfl)))) _) ft
     (bI (bI c0 (p:=⟨w.heap.size+1,0,none⟩) (by simp) _) (p:=⟨w.heap.size+1+1,0,none⟩) (by simp<;>omega) _)
     (bI (c1.set _) (p:=⟨w.heap.size+1+1,0,none⟩) (by simp<;>omega) _) ((bI c2 (p:=⟨w.heap.size+1,0,none⟩) (by simp) _).set _)
     ((ol _ _ (by omega)).setCell (p:=⟨w.heap.size+1+1,0,none⟩) (by simp;omega) _) HR.out (by omega) (by rw[HG.out];simp[Np.cV,h1,h2,d6,h3,e])
  case done=>
   rintro D S W hD df aP ⟨hS,c0,c1,c2,hg,hB⟩ hK;have c0c:=c0.cell;have c0f:=c0.frozen;have jY:Np.cV (Np.ar t.data.toList) 0 false=true:=by rw[hg.2 [] (by simp)];rfl
   have qT:w.heap.size≠D:=λe=>df ((hS _).2 (.inl e.symm));clear hg;have HE:=jq jY;clear jY;gi_wp2;have hK':(W.setCell ⟨w.heap.size,0,none⟩ (.bool true)).heap[D]?=some (.deferred (some [])):=(wQ _ _ _ _ (by simpa using qT.symm)).trans hK;have c5:=(mN (c0.set (.bool true)) qT (.deferred none)).cell;exact iw hK' (v:=.bool true) (by simp[results,results118,go_sem,c5]) ⟨by rw[HV.out,HE.out],ib (hB.setCell (bQ _) _) (by simp at hD;omega) _⟩
  case stop=>
   rintro D c pre S W hD df aP gU ⟨rfl,hS,c0,hg,hB⟩ hK;have qT:w.heap.size≠D:=λe=>df ((hS _).2 (.inl e.symm));have HE:=jq hg;clear hg;gi_wp2;have c5:=(mN c0 qT (.deferred none)).cell;exact iw hK (v:=.bool false) (by simp[results,results118,go_sem,c5]) ⟨by rw[HV.out,HE.out],ib hB (by simp at hD;omega) _⟩
theorem jE(t:ByteArray)(ht:t.size<=140737488355328)(w:World) :
 Calls prog 48 #[.string t] w (aUQ w.heap.size w (.bool (Np.ao t.data.toList))):=by
 go_enter func48,ntmps48;go_wp2_with (go_at_call 118;refine (jH _ ht _).mono ?_;rintro e w' ⟨rfl,hb⟩);go_ret;exact⟨rfl,hb⟩
end
section
open Go.RowKit
theorem I1(x lo hi:Int)(w:World) :
 Calls prog 85 #[.int .i64 x,.int .i64 lo,.int .i64 hi] w (aUZ w (.bool (decide (lo<=x)&&decide (x<=hi)))):=by
 by_cases h1:lo<=x
 all_goals
  go_enter func85,ntmps85;go_wp2;go_ret;exact⟨aw (by simp;omega),rfl⟩
theorem Po(s:ByteArray)(h:1<=s.size):((s.extract 0 1).toList == [42])=Np.gu s.data.toList:=by
 rw[dQ,yU];unfold Np.gu;have hl:1<=s.data.toList.length:=by rw[be];exact h
 cases hd:s.data.toList with
 | nil=>rw[hd] at hl;simp at hl
 | cons a r=>rw[Bool.eq_iff_iff];simp
theorem Pp(s:ByteArray)(hs:s.size<=140737488355328)(w:World) :
 Calls prog 86 #[.string s] w (aUZ w (.bool (Np.gu s.data.toList))):=by
 have h1:1<=s.size->((s.extract 0 1).toList == [42])=Np.gu s.data.toList:=Po s;have h2:s.size<1->Np.gu s.data.toList=false:=λh=>by
  have:s.data.toList = []:=rQ (by rw[be];omega)
  rw[this];rfl
 have H1:=jq h1;have H2:=jq h2;clear h1 h2;go_enter func86,ntmps86;go_wp2
 ·go_ret;exact⟨aw (H1.out (by omega)),rfl⟩
 ·go_ret;exact⟨aw (H2.out (by omega)).symm,rfl⟩
theorem Wo(s t:ByteArray)(w:World) :
 Calls prog 152 #[.string s,.string t] w (aUZ w (.int .i64 (Np.cW s.data.toList t.data.toList))):=by
 go_enter func152,ntmps152;go_wp2
 ·have h:Op.bytesLess s.toList t.toList=true:=by assumption
  simp only[dQ] at h;go_ret;exact⟨jb (by simp[Np.cW,h]),rfl⟩
 ·have h:Op.bytesLess s.toList t.toList=false:=by assumption
  have h2:(!s.toList == t.toList)=true:=by assumption
  simp only[dQ] at h h2;have h3:¬ s.data.toList=t.data.toList:=by simpa using h2
  go_ret;exact⟨jb (by rw[Np.cW,Qc (by simp[h]),Qc h3]),rfl⟩
 ·have h:Op.bytesLess s.toList t.toList=false:=by assumption
  have h2:(!s.toList == t.toList)=false:=by assumption
  simp only[dQ] at h h2;have h3:s.data.toList=t.data.toList:=by simpa using h2
  go_ret;exact⟨jb (by rw[Np.cW,Qc (by simp[h]),QbQ h3]),rfl⟩
theorem L6(s t:Int)(w:World) :
 Calls prog 153 #[.int .i64 s,.int .i64 t] w (aUZ w (.int .i64 (Np.ma s t))):=by
 go_enter func153,ntmps153;go_wp2
 ·go_ret;exact⟨jb (by rw[Np.ma,QbQ ‹_›]),rfl⟩
 ·go_ret;exact⟨jb (by rw[Np.ma,Qc (by omega),QbQ ‹_›]),rfl⟩
 ·go_ret;exact⟨jb (by rw[Np.ma,Qc (by omega),Qc (by omega)]),rfl⟩
theorem MK(c:UInt8):Np.qQ c=decide ((97<=(c.toNat:Int)/\(c.toNat:Int)<=122)\/(48<=(c.toNat:Int)/\(c.toNat:Int)<=57)\/(c.toNat:Int)=32):=by
 have h:=pd c 32 (by decide);unfold Np.qQ Np.qd Np.oR;rw[show (32:UInt8)=UInt8.ofNat 32 from rfl,h,Bool.eq_iff_iff];simp[UInt8.le_iff_toNat_le];omega
theorem abX(s:ByteArray)(h:(s.size:Int)<1):Np.lj s.data.toList=false:=by
 have:¬ 1<=s.size:=by omega
 simp[Np.lj,this]
theorem abY(s:ByteArray)(h:40<(s.size:Int)):Np.lj s.data.toList=false:=by
 have:¬ s.size<=40:=by omega
 simp[Np.lj,this]
theorem acQ(s:ByteArray)(h0:0<s.size)(h:(s[0].toNat:Int)=32):Np.lj s.data.toList=false:=by
 have e:=pd s[0] 32 (by decide);rw[uQ (by simpa using h)] at e;have e2:s[0]=(32:UInt8):=by simpa using e
 simp[Np.lj,CT s h0,e2]
theorem acZ(s:ByteArray)(h0:s.size - 1<s.size)(h:(s[s.size - 1].toNat:Int)=32):Np.lj s.data.toList=false:=by
 have e:=pd s[s.size - 1] 32 (by decide);rw[uQ (by simpa using h)] at e;have e2:s[s.size - 1]=(32:UInt8):=by simpa using e
 simp[Np.lj,DE s h0,e2]
theorem acJ(s:ByteArray)(k:Nat)(hk:k<s.size)(h:Np.qQ s[k]=false):Np.lj s.data.toList=false:=by
 have:s.data.toList.all Np.qQ=false:=by
  rw[List.all_eq_false];exact⟨s[k],by rw[<-cQ.1 (wo s k hk) |>.2];exact List.getElem_mem _,by simp[h]⟩
 simp[Np.lj,this]
theorem acK(s:ByteArray)(h1:1<=s.size)(h2:s.size<=40)(h3:¬ (s[0].toNat:Int)=32)(h4:¬ (s[s.size - 1].toNat:Int)=32)(h5:s.data.toList.all Np.qQ=true):Np.lj s.data.toList=true:=by
 have e:=pd s[0] 32 (by decide);have e':=pd s[s.size - 1] 32 (by decide);rw[tQ (by simpa using h3)] at e;rw[tQ (by simpa using h4)] at e';have e2:¬ s[0]=(32:UInt8):=by simpa using e
 have e3:¬ s[s.size - 1]=(32:UInt8):=by simpa using e'
 simp[Np.lj,DE s (by omega),CT s (by omega),e2,e3,h5,h1,h2]
theorem acX(s:ByteArray)(hs:s.size<=140737488355328)(w:World) :
 Calls prog 150 #[.string s] w (aUZ w (.bool (Np.lj s.data.toList))):=by
 ·go_enter func150,ntmps150;go_wp2
  rotate_right
  ·go_ret;exact⟨aw (abX s ‹_›).symm,rfl⟩
  ·go_ret;exact⟨aw (abY s ‹_›).symm,rfl⟩
  ·go_ret;exact⟨aw (acQ s ‹_› ‹_›).symm,rfl⟩
  ·have h:((s[s.size - 1].toNat:Int) == 32)=true:=by assumption
   go_ret;exact⟨aw (acZ s (by omega) (by simpa using h)).symm,rfl⟩
  ·have h2:(s.size:Int)<=40:=by assumption
   have h3:¬ (s[0].toNat:Int)=32:=by assumption
   have h4:((s[s.size - 1].toNat:Int) == 32)=false:=by assumption
   have H4:=jq h4;clear h4;have H3:=jq h3;go_loop [24] (λi=>∃ k:Nat,k<=s.size/\i = .int .i64 k/\(s.data.toList.take k).all Np.qQ=true) (λi=>s.size - (intOf i).toNat)
   case atStart=>exact⟨0,jQ _,rfl,rfl⟩
   case round=>
    obtain⟨k,hk,rfl,ha⟩:=hrel;have HA:=jq ha;clear ha;by_cases af:k<s.size
    ·have hb:=AN s[k];by_cases hf:(97<=(s[k].toNat:Int)/\(s[k].toNat:Int)<=122)\/(48<=(s[k].toNat:Int)/\(s[k].toNat:Int)<=57)\/(s[k].toNat:Int)=32
     ·have hl:Np.qQ s[k]=true:=by rw[MK];exact uQ hf
      have HL:=jq hl;clear hl;go_wp2
      all_goals first
       | (go_round
          case rel=>exact⟨k+1,by omega,by go_num,LU s k af _ HA.out HL.out⟩
          case measure=>simp[intOf]<;>omega)
       | (exfalso
          have hne:((s[k].toNat:Int) != 32)=true:=by assumption
          have GR:=bne_iff_ne.1 hne;omega)
     ·have hl:Np.qQ s[k]=false:=by rw[MK];exact tQ hf
      have HL:=jq hl;clear hl;go_wp2
      all_goals first
       | (go_ret;exact⟨aw (acJ s k af HL.out).symm,rfl⟩)
       | (exfalso;omega)
       | (exfalso
          have hne:((s[k].toNat:Int) != 32)=false:=by assumption
          have GR:(s[k].toNat:Int)=32:=by simpa using hne
          omega)
    ·go_wp2;go_ret;exact⟨aw (acK s (by omega) (by omega) H3.out (by simpa using H4.out) (by have:=HA.out;rwa [II s k (by omega)] at this)).symm,rfl⟩
def orI:List Int->Int
 | []=>0
 | x::xs=>if x≠0 then x else orI xs
theorem aoQ(xs:List Int)(h:∀ x∈xs,x=0):orI xs=0:=by
 induction xs with
 | nil=>rfl
 | cons x r ih=>rw[orI,Qc (by simp[h x (by simp)])];exact ih (λy hy=>h y (by simp[hy]))
theorem anY(xs:List Int)(k:Nat)(hk:k<xs.length)(h:∀ x∈xs.take k,x=0)(hx:xs[k]≠0):orI xs=xs[k]:=by
 induction xs generalizing k with
 | nil=>simp at hk
 | cons x r ih=>
  cases k with
  | zero=>simp at hx;simp[orI,hx]
  | succ k=>
   have h0:x=0:=h x (by simp);rw[orI,Qc (by simp[h0])];simpa using ih k (by simpa using hk) (λy hy=>h y (by simp[hy])) (by simpa using hx)
theorem Wn(b c:Nat)(xs:List Int)(hl:xs.length<=1000)(w:World)(hc:∀ i x,xs[i]?=some x->w.cell? ⟨b,i,none⟩=some (.int .i64 x)) :
 Calls prog 151 #[.slice (some ⟨b,0,none⟩) xs.length c] w (aUZ w (.int .i64 (orI xs))):=by
 have HC:=jq hc;clear hc;go_enter func151,ntmps151;go_wp2;go_loop [8] (λi=>∃ k:Nat,k<=xs.length/\i = .int .i64 k/\Hid (∀ x∈xs.take k,x=0)) (λi=>xs.length - (intOf i).toNat)
 case atStart=>exact⟨0,jQ _,rfl,jq (by simp)⟩
 case round=>
  obtain⟨k,hk,rfl,HA⟩:=hrel;by_cases af:k<xs.length
  ·have hcell:w.cell? ⟨b,k,none⟩=some (.int .i64 xs[k]):=HC.out k _ (aQ af);go_wp2
   ·have hne:(xs[k] != 0)=true:=by assumption
    go_ret;exact⟨jb (anY xs k af HA.out (by simpa using hne)).symm,rfl⟩
   ·have hne:(xs[k] != 0)=false:=by assumption
    go_round
    case rel=>
     refine⟨k+1,by omega,by go_num,jq ?_⟩;rw[fQ af];intro x hx;rcases List.mem_append.1 hx with h | h
     ·exact HA.out x h
     ·simp at h;subst h;simpa using hne
    case measure=>simp[intOf]<;>omega
  ·go_wp2;go_ret;exact⟨jb (aoQ xs (by have:=HA.out;rwa [kQ (by omega)] at this)).symm,rfl⟩
theorem Wk(a b:Np.Datum):Np.yO a b=orI [Np.cW a.text b.text,Np.ma a.n b.n,Np.ma a.m b.m]:=by
 simp only[Np.yO,orI];split
 ·rfl
 ·split
  ·rfl
  ·split
   ·rfl
   ·rename_i h;simpa using h
theorem Wv(s t:ByteArray)(n1 m1 n2 m2:Int)(w:World) :
 Calls prog 88 #[.agg #[.string s,.int .i64 n1,.int .i64 m1],.agg #[.string t,.int .i64 n2,.int .i64 m2]] w
  λe w'=>e = .returned (.int .i64 (Np.yO ⟨s.data.toList,n1,m1⟩ ⟨t.data.toList,n2,m2⟩))/\Below w.heap.size w w':=by
 rw[Wk];go_enter func88,ntmps88;go_wp2;refine QV 15 (by kernel_rfl) (by kernel_rfl) ?_;simp only[List.take_succ_cons,List.take_zero,List.drop_succ_cons,List.drop_zero]
 iterate 4 still_step
 still_call (Calls.still_same (Wo _ _ _))
 iterate 4 still_step
 still_call (Calls.still_same (L6 _ _ _))
 iterate 4 still_step
 still_call (Calls.still_same (L6 _ _ _))
 refine wpStill_nil ?_;go_wp2_with fail;refine (Wn (w.heap.size+1+1) 3 [Np.cW s.data.toList t.data.toList,Np.ma n1 n2,Np.ma m1 m2] (by simp) _ ?_).mono ?_
 ·intro i x hx
  match i,hx with
  | 0,hx=>simp at hx;subst hx;go_simp
  | 1,hx=>simp at hx;subst hx;go_simp
  | 2,hx=>simp at hx;subst hx;go_simp
  | i+3,hx=>simp at hx
 ·rintro e w' ⟨rfl,rfl⟩;go_wp2_with fail;go_ret;exact⟨rfl,((((vQ _ w).alloc (bQ _) _).alloc (by simp) _).alloc (by simp;omega) _).drew⟩
def ip(r:Np.Rule):Array Value:=#[.int .i64 r.text,.int .i64 r.leastN,.int .i64 r.mostN,.int .i64 r.leastM,.int .i64 r.mostM,.bool r.even,.bool r.single,.bool r.wild]
theorem aHJ(k ln mn lm mm:Int)(ev si wi:Bool)(s:ByteArray)(hs:s.size<=140737488355328)(n m:Int)(w:World) :
 Calls prog 87 #[.agg #[.int .i64 k,.int .i64 ln,.int .i64 mn,.int .i64 lm,.int .i64 mm,.bool ev,.bool si,.bool wi],.agg #[.string s,.int .i64 n,.int .i64 m]] w
  λe w'=>e = .returned (.bool (Np.lE ⟨k,ln,mn,lm,mm,ev,si,wi⟩ ⟨s.data.toList,n,m⟩))/\Below w.heap.size w w':=by
 go_enter func87,ntmps87;go_wp2_with (first
  | (go_at_call 85;refine (I1 _ _ _ _).mono ?_;rintro e w' ⟨rfl,rfl⟩)
  | (go_at_call 48;refine (jE _ hs _).mono ?_;rintro e w' ⟨rfl,hb⟩;obtain⟨hc,hf⟩:=dd hb)
  | (go_at_call 86;refine (Pp _ hs _).mono ?_;rintro e w' ⟨rfl,rfl⟩)
  | (go_at_call 150;refine (acX _ hs _).mono ?_;rintro e w' ⟨rfl,rfl⟩))
 all_goals
  go_ret;go_light;refine⟨aw ?_,?_⟩
  ·simp_all [Np.lE,Np.vu,dQ]<;>(intros;omega)
  ·first
    | exact ((vQ _ w).alloc (bQ _) _).alloc (by simp) _
    | exact (((vQ _ w).alloc (bQ _) _).alloc (by simp) _).trans (hb.mono (by simp;omega))
end
namespace Np
def cls(c:UInt8):Nat:=
 if c=32\/c=9\/c=10 then 1 else if c=35 then 2 else if qd c||oR c||c == 42 then 3 else if c=45 then 4 else if c=46 then 5 else if c=34 then 6
 else if c=123\/c=125\/c=59\/c=44\/c=61\/c=64 then 7 else 0
def tj(c:UInt8):Bool:=cls c == 3||cls c == 4||cls c == 5
def PP(c:UInt8):Bool:=c != 10
def Ht(c:UInt8):Bool:=c != 34&&c != 10
def arZ(r:List UInt8):Nat:=if 1<=(r.takeWhile Ht).length/\r[(r.takeWhile Ht).length]?=some 34 then (r.takeWhile Ht).length+2 else 0
def QP:List UInt8->Nat
 | []=>0
 | c::r=>match cls c with
   | 1=>1
   | 2=>((c::r).takeWhile PP).length
   | 3=>((c::r).takeWhile tj).length
   | 5=>if ((c::r).takeWhile tj).length=1 then 1 else 0
   | 6=>arZ r
   | 7=>1
   | _=>0
structure Tok where
 kind:Int
 text:List UInt8
 n:Int
 pos:Int
deriving DecidableEq
def Tok.zero:Tok:=⟨0,[],0,0⟩
def dec(s:List UInt8):Nat:=s.foldl (λa c=>10 * a+(c.toNat - 48)) 0
def AM(k:Nat)(s:List UInt8):Int×Tok:=
 if k=7 then (0,⟨3,s,0,0⟩)
 else if k=6 then (if 42<s.length then (3,Tok.zero) else (0,⟨1,s,0,0⟩))
 else if s.all oR=false then (if 60<s.length then (3,Tok.zero) else (0,⟨1,s,0,0⟩))
 else if 1<s.length/\s.head?=some 48 then (10,Tok.zero)
 else if 1000000000<dec s then (3,Tok.zero) else (0,⟨2,[],dec s,0⟩)
def rt:List UInt8->Nat->Nat->List Tok×Int×Nat
 | [],_,_=>([],0,0)
 | c::r,p,k=>
  let n:=QP (c::r)
  if cls c=1\/cls c=2 then rt (r.drop (n - 1)) (p+n) k
  else if n=0 then ([],10,p)
  else if k=2000 then ([],2,p)
  else if (AM (cls c) ((c::r).take n)).1≠0 then ([],(AM (cls c) ((c::r).take n)).1,p)
  else
   let x:=rt (r.drop (n - 1)) (p+n) (k+1)
   ({ (AM (cls c) ((c::r).take n)).2 with pos:=p } :: x.1,x.2)
termination_by l=>l.length
decreasing_by all_goals (simp;omega)

end Np
section
open Go.RowKit
def bL(w:World)(B:Nat):Prop:=0<B/\∀ k:Nat,k<9->eB w 0 (k * 8) (ip (Np.dF k)).toList
theorem bL.keep{w w':World}{B:Nat}(h:bL w B)(hb:Below B w w'):bL w' B:=⟨h.1,λk hk=>(h.2 k hk).keep hb h.1⟩
theorem bL.more{w:World}{B B':Nat}(h:bL w B)(hB:B<=B'):bL w B':=⟨lqQ h.1 hB,h.2⟩
def bS(_:World)(_:Nat)(e:List Value)(d:Np.Datum):Prop:=∃ s:ByteArray,s.data.toList=d.text/\s.size<=140737488355328/\e = [.string s,.int .i64 d.n,.int .i64 d.m]
theorem br:eh bS:=λ_ _ _ _ _ h _=>h
theorem bB:eI bS:=λ_ _ _ _ _ h _=>h
theorem V7{w w':World}(h:w'=w):Below w.heap.size w w':=by rw[h];exact vQ _ _
theorem IT(k ln mn lm mm:Int)(ev si wi:Bool)(s:ByteArray)(hs:s.size<=140737488355328)(n m:Int)(w:World)(t:Bool)(ht:Np.lE ⟨k,ln,mn,lm,mm,ev,si,wi⟩ ⟨s.data.toList,n,m⟩=t) :
 Calls prog 87 #[.agg #[.int .i64 k,.int .i64 ln,.int .i64 mn,.int .i64 lm,.int .i64 mm,.bool ev,.bool si,.bool wi],.agg #[.string s,.int .i64 n,.int .i64 m]] w
  λe w'=>e = .returned (.bool t)/\Below w.heap.size w w':=by
 subst ht;exact aHJ k ln mn lm mm ev si wi s hs n m w
def VK(w1:World)(o:Obj)(r:Np.Rule)(ds:List Np.Datum)(i:Value)(wr:World):Prop:=
 ∃ j:Nat,j<=ds.length/\i = .int .i64 j/\Below (w1.alloc o).heap.size (w1.alloc o) wr/\Np.iW r none ds=Np.iW r (ds.take j).getLast? (ds.drop j)
theorem oX(s:ByteArray)(hs:s.size<=140737488355328)(ty life:Int)(v:Value)(ds:List Np.Datum)(w:World)(hR:bL w w.heap.size)(hd:SlR bS 3 w w.heap.size v ds) :
 Calls prog 33 #[.agg #[.string s,.int .i64 ty,.int .i64 life,v]] w
  λe w'=>e = .returned (.bool (Np.bo ⟨s.data.toList,ty,life,ds⟩))/\Below w.heap.size w w':=by
 have HR:=jq hR;have HD:=jq hd;obtain⟨A,c,rfl,bi,fD,cp⟩:=hd;clear hR cp;have HF:Hid (∀ t:Bool,t=Np.bo ⟨s.data.toList,ty,life,ds⟩->(.bool t:Value) = .bool (Np.bo ⟨s.data.toList,ty,life,ds⟩)):=λt ht=>by rw[ht]
 go_enter func33,ntmps33;go_wp2_with fail;refine (jE _ hs _).mono ?_;rintro e w1 ⟨rfl,hb⟩;have cF:Below w.heap.size w w1:=((vQ _ w).alloc (bQ _) _).trans (hb.mono (by simp));have au:w.heap.size+1<=w1.heap.size:=by have:=hb.size;simpa using this
 have oy:w.heap.size<w1.heap.size:=by omega
 have c0:w1.cell? ⟨w.heap.size,0,none⟩=some (.string s):=by rw[hb.cell (by simp)];go_simp
 have c1:w1.cell? ⟨w.heap.size,1,none⟩=some (.int .i64 ty):=by rw[hb.cell (by simp)];go_simp
 have c2:w1.cell? ⟨w.heap.size,2,none⟩=some (.int .i64 life):=by rw[hb.cell (by simp)];go_simp
 have c3:w1.cell? ⟨w.heap.size,3,none⟩=some (.slice A ds.length c):=by rw[hb.cell (by simp)];go_simp
 have HB:=jq hb;clear hb;by_cases dt:1<=ty/\ty<=8
 ·obtain⟨k,rfl⟩:=Int.eq_ofNat_of_zero_le (by omega:0<=ty);have C0:k<9:=by omega
  have kZ:=(HR.out.keep cF).2 k C0;have r0:w1.cell? ⟨0,k * 8,none⟩=some (.int .i64 (Np.dF k).text):=kZ 0 _ rfl;have r1:w1.cell? ⟨0,k * 8+1,none⟩=some (.int .i64 (Np.dF k).leastN):=kZ 1 _ rfl;have r2:w1.cell? ⟨0,k * 8+2,none⟩=some (.int .i64 (Np.dF k).mostN):=kZ 2 _ rfl;have r3:w1.cell? ⟨0,k * 8+3,none⟩=some (.int .i64 (Np.dF k).leastM):=kZ 3 _ rfl;have r4:w1.cell? ⟨0,k * 8+4,none⟩=some (.int .i64 (Np.dF k).mostM):=kZ 4 _ rfl;have r5:w1.cell? ⟨0,k * 8+5,none⟩=some (.bool (Np.dF k).even):=kZ 5 _ rfl;have r6:w1.cell? ⟨0,k * 8+6,none⟩=some (.bool (Np.dF k).single):=kZ 6 _ rfl;have r7:w1.cell? ⟨0,k * 8+7,none⟩=some (.bool (Np.dF k).wild):=kZ 7 _ rfl;clear kZ;go_wp2_with (first
   | (go_at_call 85;refine (I1 _ _ _ _).mono ?_;rintro e w' ⟨rfl,rfl⟩)
   | (go_at_call 86;refine (Pp _ hs _).mono ?_;rintro e w' ⟨rfl,rfl⟩))
  all_goals first
   | (go_ret
      go_light;refine⟨aw ?_,by first | exact cF | exact cF.alloc (by omega) _⟩;simp_all [Np.bo]<;>(intros;omega))
   | skip
  all_goals
   have hv:Np.bo ⟨s.data.toList,k,life,ds⟩=Np.iW (Np.dF k) none ds:=by
    go_light;simp_all [Np.bo]<;>(intros;omega)
  rotate_left 3
  all_goals
   have HV:=jq hv;clear hv HF;go_loopw [52] (λi wr=>VK w1 (Obj.cells (ip (Np.dF k)) 131) (Np.dF k) ds i wr) (λi _=>ds.length - (intOf i).toNat)
   case atStart=>
    refine⟨0,jQ _,rfl,V7 ?_,rfl⟩;go_light;simp_all [ip]
   case round=>
    obtain⟨j,hj,rfl,bH,hg⟩:=hrel;have HG:=jq hg;clear hg;by_cases af:j<ds.length
    ·have ZR:=bH.size;simp only[World.size_alloc] at ZR;have Gm:Below w.heap.size w wr:=(cF.alloc (by omega) _).trans (bH.mono (by simp;omega));have cN:w.heap.size<wr.heap.size:=by omega
     have ah:w1.heap.size<wr.heap.size:=by omega
     have d3:wr.cell? ⟨w.heap.size,3,none⟩=some (.slice A ds.length c):=by rw[bH.cell (by simp;omega)];rw[World.cell?_alloc_lt _ _ _ (by simpa using oy)];exact c3
     have q0:wr.cell? ⟨w1.heap.size,0,none⟩=some (.int .i64 (Np.dF k).text):=by rw[bH.cell (by simp)];exact World.cell?_alloc_new w1 _ _ _
     have q1:wr.cell? ⟨w1.heap.size,1,none⟩=some (.int .i64 (Np.dF k).leastN):=by rw[bH.cell (by simp)];exact World.cell?_alloc_new w1 _ _ _
     have q2:wr.cell? ⟨w1.heap.size,2,none⟩=some (.int .i64 (Np.dF k).mostN):=by rw[bH.cell (by simp)];exact World.cell?_alloc_new w1 _ _ _
     have q3:wr.cell? ⟨w1.heap.size,3,none⟩=some (.int .i64 (Np.dF k).leastM):=by rw[bH.cell (by simp)];exact World.cell?_alloc_new w1 _ _ _
     have q4:wr.cell? ⟨w1.heap.size,4,none⟩=some (.int .i64 (Np.dF k).mostM):=by rw[bH.cell (by simp)];exact World.cell?_alloc_new w1 _ _ _
     have q5:wr.cell? ⟨w1.heap.size,5,none⟩=some (.bool (Np.dF k).even):=by rw[bH.cell (by simp)];exact World.cell?_alloc_new w1 _ _ _
     have q6:wr.cell? ⟨w1.heap.size,6,none⟩=some (.bool (Np.dF k).single):=by rw[bH.cell (by simp)];exact World.cell?_alloc_new w1 _ _ _
     have q7:wr.cell? ⟨w1.heap.size,7,none⟩=some (.bool (Np.dF k).wild):=by rw[bH.cell (by simp)];exact World.cell?_alloc_new w1 _ _ _
     obtain⟨A',c',hA',_,_,dH⟩:=HD.out.keep br Gm
     cases hA'
     obtain⟨b,o,e,rfl,eU,_,hce,sd,s8,Dh,rfl⟩:=dH j _ (aQ af);have e0:wr.cell? ⟨b,o+j * 3,none⟩=some (.string sd):=hce 0 _ rfl;have e1:wr.cell? ⟨b,o+j * 3+1,none⟩=some (.int .i64 ds[j].n):=hce 1 _ rfl;have e2:wr.cell? ⟨b,o+j * 3+2,none⟩=some (.int .i64 ds[j].m):=hce 2 _ rfl;have NV:b<wr.heap.size:=by omega
     have bU:=jq bH;have aG:=jq Gm;have R2:=jq dH;have vS:=jq s8;clear hce bH Gm dH s8 c0 c1 c2 c3 r0 r1 r2 r3 r4 r5 r6 r7;go_wp2_with fail;have p0:=World.cell?_alloc_new wr #[.string sd,.int .i64 ds[j].n,.int .i64 ds[j].m] 75 0;have p1:=World.cell?_alloc_new wr #[.string sd,.int .i64 ds[j].n,.int .i64 ds[j].m] 75 1;have p2:=World.cell?_alloc_new wr #[.string sd,.int .i64 ds[j].n,.int .i64 ds[j].m] 75 2;have keep:∀ b o,b<wr.heap.size->(wr.alloc (.cells #[.string sd,.int .i64 ds[j].n,.int .i64 ds[j].m] 75)).cell? ⟨b,o,none⟩=wr.cell? ⟨b,o,none⟩:=λb o h=>World.cell?_alloc_lt _ _ _ h;have uV:(wr.alloc (.cells #[.string sd,.int .i64 ds[j].n,.int .i64 ds[j].m] 75)).heap.size=wr.heap.size+1:=World.size_alloc _ _;have dP:Below wr.heap.size wr (wr.alloc (.cells #[.string sd,.int .i64 ds[j].n,.int .i64 ds[j].m] 75)):=blAl;generalize wr.alloc (.cells #[.string sd,.int .i64 ds[j].n,.int .i64 ds[j].m] 75)=wx at p0 p1 p2 keep uV dP |-;have eO:w.heap.size<wx.heap.size:=by omega
     have d6:w1.heap.size<wx.heap.size:=by omega
     have my:wr.heap.size<wx.heap.size:=by omega
     have p9:b<wx.heap.size:=by omega
     have wR:∀ (g:bA wx) (p:Addr),p.block<wx.heap.size->g.w.cell? p=wx.cell? p:=λg p h=>g.cell p h;have iK:=jq dP;clear dP uV;have N8:(⟨sd.data.toList,ds[j].n,ds[j].m⟩:Np.Datum)=ds[j]:=by rw[vS.out]
     have Br:=jq N8;clear N8;by_cases Dl:Np.lE (Np.dF k) ⟨sd.data.toList,ds[j].n,ds[j].m⟩=true
     ·have tU:=jq Dl;clear Dl;by_cases wV:j=0
      ·subst wV;refine aTX ?_
       repeat (go_big_quiet_step ((go_at_call 87;exact Calls.grow_of (IT _ _ _ _ _ _ _ _ _ Dh _ _ _ true tU.out))))
       refine wpQuiet_nil ?_;rintro _ ⟨g,rfl⟩;go_wp2_with fail;go_roundw
       case rel=>
        go_light;have h1:=Np.XM (r:=Np.dF k) (aQ af) (by rw[<-Br.out];exact tU.out);exact⟨1,af,by go_num,bU.out.trans ((iK.out.trans (g.below.aSZ)).mono (by simp;omega)),by rw[<-h1];exact HG.out⟩
       case measure=>simp[intOf]<;>omega
      ·obtain⟨i,rfl⟩:∃ i,j=i+1:=⟨j - 1,by omega⟩
       try (exfalso;omega)
       all_goals
        obtain⟨b',o',e',FM,YL,_,CP,sq,OU,a5J,rfl⟩:=R2.out i _ (aQ (by omega))
        cases FM
        have f0:wr.cell? ⟨b,o+i * 3,none⟩=some (.string sq):=CP 0 _ rfl;have f1:wr.cell? ⟨b,o+i * 3+1,none⟩=some (.int .i64 (ds[i]'(by omega)).n):=CP 1 _ rfl;have f2:wr.cell? ⟨b,o+i * 3+2,none⟩=some (.int .i64 (ds[i]'(by omega)).m):=CP 2 _ rfl;have N3:(⟨sq.data.toList,(ds[i]'(by omega)).n,(ds[i]'(by omega)).m⟩:Np.Datum)=ds[i]'(by omega):=by rw[OU]
        have RQ:=jq N3;clear CP OU N3;refine aTX ?_
        repeat (go_big_quiet_step (first
         | (go_at_call 87;exact Calls.grow_of (IT _ _ _ _ _ _ _ _ _ Dh _ _ _ true tU.out))
         | (go_at_call 88;exact Calls.grow_of (Wv _ _ _ _ _ _ _))))
        refine wpQuiet_nil ?_;rintro _ ⟨g,rfl⟩;have h1:=Np.XN (r:=Np.dF k) (aQ (by omega:i<ds.length)) (aQ af) (by rw[<-Br.out];exact tU.out);rw[<-Br.out,<-RQ.out] at h1;have H1:=jq h1;clear h1;go_wp2_with fail
        ·go_ret;refine⟨aw ?_,aG.out.trans ((iK.out.trans (g.below.aSZ)).aSZ)⟩;rw[HV.out,HG.out,H1.out,Qc (by omega)]
        ·go_roundw
         case rel=>
          go_light;exact⟨i+1+1,af,by go_num,bU.out.trans ((iK.out.trans (g.below.aSZ)).mono (by simp;omega)),by rw[HG.out,H1.out,QbQ (by omega)]⟩
         case measure=>simp[intOf]<;>omega
     ·have O4:Np.lE (Np.dF k) ⟨sd.data.toList,ds[j].n,ds[j].m⟩=false:=by simpa using Dl
      have tU:=jq O4;clear Dl O4;refine aTX ?_
      repeat (go_big_quiet_step ((go_at_call 87;exact Calls.grow_of (IT _ _ _ _ _ _ _ _ _ Dh _ _ _ false tU.out))))
      refine wpQuiet_nil ?_;rintro _ ⟨g,rfl⟩;go_wp2_with fail;go_ret;refine⟨aw ?_,aG.out.trans ((iK.out.trans (g.below.aSZ)).aSZ)⟩;rw[HV.out,HG.out,Np.XL (aQ af) (by rw[<-Br.out];exact tU.out)]
    ·go_wp2_with fail;go_ret;refine⟨aw ?_,(cF.alloc (by omega) _).trans (bH.mono (by simp;omega))⟩;rw[HV.out,HG.out,List.drop_eq_nil_of_le (by omega)];rfl
 ·have hv:Np.bo ⟨s.data.toList,ty,life,ds⟩=false:=by
   simp only[Np.bo]
   have:(decide (1<=ty)&&decide (ty<=8))=false:=by simp;omega
   rw[this];simp
  have HV:=jq hv;clear hv;have O0:(decide (1<=ty)&&decide (ty<=8))=false:=by simp;omega
  go_wp2_with (first
   | (go_at_call 85;refine (I1 _ _ _ _).mono ?_;rintro e w' ⟨rfl,rfl⟩))
  all_goals
   go_ret;exact⟨aw HV.out.symm,cF⟩
end
namespace Np
structure IsGap(g:List UInt8):Prop where
 skip:∀ x p k,rt (g++x) p k=rt x (p+g.length) k
 stop:∃ c r,g=c::r/\tj c=false
 rest:∀ p k,rt (g.drop (g.takeWhile PP).length) p k=([],0,0)
def QZ(y:List UInt8):Prop:=y = []\/y.head?=some 32
def Cf(t:Tok):Tok:={ t with pos:=0 }
def jJ(x:List UInt8)(t:Tok):Prop:=∃ c r,x=c::r/\¬ (cls c=1\/cls c=2)/\(∀ y,QZ y->QP (x++y)=x.length)/\(AM (cls c) x).1=0/\Cf (AM (cls c) x).2=Cf t
structure Sig where
 zone:List UInt8
 key:Int
 alg:Int
 frm:Int
 til:Int
 sum:Int
deriving DecidableEq
structure Signed where
 set:DSet
 sigs:List Sig
deriving DecidableEq
structure Span where
 frm:Int
 til:Int
deriving DecidableEq
def ayZ(g x:Sig):Bool:=(x.frm != g.frm)||(x.til != g.til)
def aqJ:List Sig->Bool
 | []=>true
 | g::r=>!(decide (g.frm<0)||decide (g.til<g.frm)||decide (20000000<g.til))&&!((g::r).any (ayZ g))
def plain(s:Signed):Bool:=bo s.set&&decide (s.sigs.length<=6)&&aqJ s.sigs
def IM(length drift life:Int):Int:=length - max life 1 - 3 * drift+2
def IL(begin stop length drift life:Int):Prop:=0<=drift/\drift<=1000/\1<=stop/\stop<=10000000/\drift<=begin/\begin<=stop - 1/\1<=length/\length<=10000000/\0<=life/\life<=100000
instance (b s l d f:Int):Decidable (IL b s l d f):=by unfold IL;infer_instance
def QA(b s k:Int):List Int:=(List.range ((s - b+k - 1) / k).toNat).map λ(i:Nat)=>b+i * k
def aFJ(b s l d f:Int):Int:=if IL b s l d f then (if IM l d f<1 then 32 else if 400<(QA b s (IM l d f)).length then 2 else 0) else 1
def times(b s l d f:Int):List Int:=if aFJ b s l d f=0 then QA b s (IM l d f) else []
structure Zone where
 apex:List UInt8
 sets:List Signed
deriving DecidableEq
def gD:List (List UInt8)->List (List UInt8)->Int
 | [],_=>-1
 | _::_,[]=>1
 | x::xs,y::ys=>if cW x y≠0 then cW x y else gD xs ys
def gE(a b:List UInt8):Int:=if a=b then 0 else gD (ar a) (ar b)
def vZ(a b:DSet):Int:=if a.name≠b.name then gE a.name b.name else ma a.type b.type
def fk(s z:List UInt8):Bool:=s == z||z == [46]||(decide (z.length<s.length)&&(s.drop (s.length - z.length) == z)&&(s[s.length - z.length - 1]? == some 46))
def MN(apex:List UInt8):Option DSet->List Signed->Bool
 | _,[]=>true
 | p,x::r=>(ao x.set.name&&fk x.set.name apex)&&bo x.set&&(match p with | none=>true | some q=>decide (vZ q x.set<0))&&MN apex (some x.set) r
def P6(z:Zone):Bool:=ao z.apex&&!gu z.apex&&MN z.apex none z.sets
theorem XQ:∀ (xs:List (List UInt8)) (n:Nat) (w:Bool),cV xs n w=true->∀ x∈xs,x = [42]\/bT x=true:=by
 intro xs
 induction xs with
 | nil=>intro _ _ _ x h;cases h
 | cons y xs ih=>
  intro n w h x hx;rw[cV] at h;split at h
  ·cases h
  ·split at h
   ·rename_i hy;rcases List.mem_cons.1 hx with rfl | hx
    ·exact .inl hy
    ·exact ih _ _ h x hx
   ·split at h
    ·rename_i hy;rcases List.mem_cons.1 hx with rfl | hx
     ·exact .inr hy
     ·exact ih _ _ h x hx
    ·cases h
theorem Cn{r:Rule} : ∀ {ds:List Datum} {p:Option Datum},iW r p ds=true->∀ d∈ds,lE r d=true
 | [],_,_,d,h=>by cases h
 | e::ds,p,h,d,hd=>by
   simp only[iW,Bool.and_eq_true] at h;rcases List.mem_cons.1 hd with rfl | hd
   ·exact h.1.1
   ·exact Cn h.2 d hd
theorem vv{s:DSet}(h:bo s=true):ao s.name=true/\1<=s.type/\s.type<=8/\0<=s.life/\s.life<=100000/\1<=s.data.length/\s.data.length<=8/\iW (dF s.type) none s.data=true:=by
 unfold bo at h;simp only[Bool.and_eq_true,Qa] at h;obtain⟨⟨⟨⟨⟨⟨h1,h2,h3⟩,h4,h5⟩,h6,h7⟩,_⟩,_⟩,h8⟩:=h;exact⟨h1,h2,h3,h4,h5,h6,h7,h8⟩
end Np
end Go.Proofs.YtadhigmjilijcaaGreatDoor
namespace Go.Proofs
open YtadhigmjilijcaaGreatDoor Tryz
open Go.Shelf
def Tryz.lays106_ren:Go.Shelf.Ren:=⟨fun | 106=>287 | 213=>305 | 265=>315 | n=>n,fun | 9=>9 | 3=>3 | n=>n,fun | n=>n⟩
theorem Tryz.lays106:Go.Proofs.Lays.n106 Tryz.prog Tryz.lays106_ren:={
 mixed:=by kernel_rfl
 f106:=func287.trans (aTJ)
 f213:=func305.trans (aTJ)
 f265:=func315.trans (aTJ)
 t3:=underlying3
 a3:=isAgg3
 z3:=Tryz.sizeOf3
 v3:=Tryz.zeroValue3
 t9:=underlying9
 a9:=isAgg9
 z9:=Tryz.sizeOf9
 v9:=Tryz.zeroValue9 }
open Go.RowKit in
theorem Tryz.strings_Compare(a b:ByteArray)(w:World) :
 Calls Tryz.prog 287 #[.string a,.string b] w λe w'=>e = .returned (.int .i64 (Lib.compareBytes a.data.toList b.data.toList))/\w'=w:=Any.strings_Compare Tryz.lays106 a b w
end Go.Proofs
namespace Go.Proofs.YtadhigmjilijcaaGreatDoor
open Go.Proofs.Tryz
section
open Go.RowKit Go.Shelf
attribute [local go_sem] Oper.semAt_some
def ff(W:World)(lm lr:Nat)(rem:List (List UInt8)):Prop:=
 ∃ (more:Bool) (r:ByteArray),Boxed W lm 4 (.bool more)/\Boxed W lr 9 (.string r)/\r.size<=140737488355328/\rem=if more then (Np.aR r.data.toList).reverse else []
theorem ff.it{B:Nat}{S:Nat->Prop}{W W':World}{lm lr:Nat}{rem:List (List UInt8)}(h:ff W lm lr rem)(hs:ItStep B S W W')(h1:S lm)(h2:S lr):ff W' lm lr rem:=by
 obtain⟨more,r,b1,b2,h3,h4⟩:=h;exact⟨more,r,eS b1 hs h1,eS b2 hs h2,h3,h4⟩
theorem ff.far{W:World}{lm lr:Nat}{rem:List (List UInt8)}(h:ff W lm lr rem){p:Addr}(h1:lm≠p.block)(h2:lr≠p.block)(u:Value):ff (W.setCell p u) lm lr rem:=by
 obtain⟨more,r,b1,b2,h3,h4⟩:=h;exact⟨more,r,bI b1 h1 u,bI b2 h2 u,h3,h4⟩
def ua(W:World)(lm lr:Nat)(rem:List (List UInt8))(e:Ending)(W':World):Prop:=
 (rem = []/\e = .returned (.tuple #[.string ⟨#[]⟩,.bool false])/\W'=W)\/
 ∃ x rest,rem=x::rest/\e = .returned (.tuple #[bl x,.bool true])/\ff W' lm lr rest/\∃ b u,(b=lm\/b=lr)/\W'=W.setCell ⟨b,0,none⟩ u
theorem DI(lm lr:Nat)(hne:lm≠lr)(rem:List (List UInt8))(w:World)(h:ff w lm lr rem) :
 Calls prog 304 #[.pointer (some ⟨lm,0,none⟩),.pointer (some ⟨lr,0,none⟩)] w (ua w lm lr rem):=by
 obtain⟨more,r,b1,b2,h3,h4⟩:=h;have HR:=jq h4;clear h4;have c1:=b1.cell;have c2:=b2.cell;have f1:=b1.frozen;have f2:=b2.frozen
 cases more with
 | false=>
  go_enter func304,ntmps304;go_wp2_with fail;refine bodyPost_ret (v:=.tuple #[.string ⟨#[]⟩,.bool false]) (by simp[results,results304,go_sem]) rfl ?_;exact .inl ⟨HR.out,rfl,rfl⟩
 | true=>
  go_enter func304,ntmps304;go_wp2_with fail;refine (DD _ h3 _ (by decide) (by decide) _).mono ?_;rintro e w' ⟨q,hq,rfl,rfl⟩;rcases hq with ⟨rfl,bX⟩ | ⟨a,b,dO,oE,rfl⟩
  ·have bp:Np.aR r.data.toList = [r.data.toList]:=Np.nh bX;have HS:=jq bp;clear bp bX;go_wp2_with fail;refine bodyPost_ret (v:=.tuple #[.string r,.bool true]) (by simp[results,results304,go_sem]) rfl ?_;refine .inr ⟨r.data.toList,[],by rw[HR.out,QbQ trivial,HS.out];rfl,rfl,⟨false,r,b1.set _,bI b2 (by simpa using hne.symm) _,h3,rfl⟩,lm,_,.inl rfl,rfl⟩
  ·have i8:a.length+1+b.length=r.size:=by rw[<-be,dO];simp;omega
   have bp:Np.aR r.data.toList=Np.aR a ++ [b]:=by rw[dO];exact (Np.rE a b).trans (by rw[Np.nh oE])
   have nI:(r.extract (a.length+1) r.size).data.toList=b:=by rw[uh,dO];simp
   have m8:(r.extract 0 a.length).data.toList=a:=by rw[yU,dO];simp
   have tW:Hid (r.extract (a.length+1) r.size=⟨b.toArray⟩):=jq (mF (by rw[nI]));have yB:=jq m8;have HS:=jq bp;clear bp nI m8 dO oE;have sL:a.length<=140737488355328:=by omega
   have Gg:a.length+1<=r.size:=by omega
   have YG:(a.length:Int)+1<=(r.size:Int):=by omega
   clear i8;go_wp2_with fail;refine bodyPost_ret (v:=.tuple #[.string (r.extract (a.length+1) r.size),.bool true]) (by simp[results,results304,go_sem]) rfl ?_;refine .inr ⟨b,(Np.aR a).reverse,by rw[HR.out,QbQ trivial,HS.out];simp,by rw[tW.out],⟨true,r.extract 0 a.length,bI b1 (by simpa using hne) _,b2.set _,by rw[<-be,yB.out];omega,by rw[yB.out];rfl⟩,lr,_,.inr rfl,rfl⟩
theorem DO(t:ByteArray)(ht:t.size<=140737488355328)(w:World) :
 Calls prog 286 #[.string t] w λe w'=>e = .returned (.func (.func 304) #[] #[.pointer (some ⟨w.heap.size+1,0,none⟩),.pointer (some ⟨w.heap.size,0,none⟩)])/\
  ff w' (w.heap.size+1) w.heap.size (Np.ar t.data.toList)/\Below w.heap.size w w'/\w'.heap.size=w.heap.size+2:=by
 have b0:=Boxed.new w 9 (.string t);have hb:∀ o o',Below w.heap.size w ((w.alloc o).alloc o'):=λo o'=>((vQ _ w).alloc (bQ _) _).alloc (by simp) _;by_cases he:t.data.toList = [46]
 ·have cP:(t.toList == [46])=true:=by rw[dQ,he];rfl
  have b1:=Boxed.new (w.alloc (.cells #[.string t] 9)) 4 (.bool false);rw[World.size_alloc] at b1;have HB:Hid (Np.ar t.data.toList = []):=jq (by simp[Np.ar,he]);clear he;go_enter func286,ntmps286;go_wp2_with fail;go_ret;exact⟨rfl,⟨false,t,b1,b0.alloc _,ht,by rw[HB.out];rfl⟩,hb _ _,by simp⟩
 ·have cP:(t.toList == [46])=false:=by rw[dQ];simpa using he
  have b1:=Boxed.new (w.alloc (.cells #[.string t] 9)) 4 (.bool true);rw[World.size_alloc] at b1;have HB:Hid (Np.ar t.data.toList=(Np.aR t.data.toList).reverse):=jq (by simp[Np.ar,he]);clear he;go_enter func286,ntmps286;go_wp2_with fail;go_ret;exact⟨rfl,⟨true,t,b1,b0.alloc _,ht,by rw[HB.out];rfl⟩,hb _ _,by simp⟩
theorem Fq:∀ a b:List UInt8,Lib.compareBytes a b=Np.cW a b:=by
 intro a
 induction a with
 | nil=>
  intro b
  cases b with
  | nil=>rfl
  | cons y b=>simp[Lib.compareBytes,Np.cW,Op.bytesLess]
 | cons x a ih=>
  intro b
  cases b with
  | nil=>simp[Lib.compareBytes,Np.cW,Op.bytesLess]
  | cons y b=>
   rw[Lib.compareBytes,ih b];by_cases h1:x<y
   ·simp[Np.cW,Op.bytesLess,h1]
   ·by_cases h2:y<x
    ·have h3:¬ x=y:=λe=>by subst e;exact h1 h2
     simp[Np.cW,Op.bytesLess,h1,h2,h3]
    ·have h3:x=y:=by
      apply UInt8.toNat_inj.1;simp only[UInt8.lt_iff_toNat_lt] at h1 h2;omega
     subst h3;simp[Np.cW,Op.bytesLess,h1]
theorem IF(s t:ByteArray)(w:World) :
 Calls prog 287 #[.string s,.string t] w (aUZ w (.int .i64 (Np.cW s.data.toList t.data.toList))):=
 (Tryz.strings_Compare s t w).mono λe w' ⟨he,hw⟩=>⟨by rw[he,Fq],hw.symm⟩
def tt(g lm lr l8:Nat)(S:Nat->Prop):Prop:=∀ k,S k↔k=g\/k=g+1\/k=lm\/k=lr\/k=l8
def tr(w:World)(g lm lr l8:Nat)(fv:Value)(m n:List UInt8)(pre:List (List UInt8))(S:Nat->Prop)(W:World):Prop:=
 tt g lm lr l8 S/\Boxed W g 3 (.int .i64 0)/\Boxed W (g+1) 34 (.int .i64 0)/\Boxed W l8 264 fv/\
 (∃ rem,ff W lm lr rem/\∀ rest,Np.ar m=pre++rest->Np.gD (Np.ar m) (Np.ar n)=Np.gD rest rem)/\Below w.heap.size w W
def tu(w:World)(g lm lr l8:Nat)(m n:List UInt8)(c:Code)(_:List (List UInt8))(S:Nat->Prop)(W:World):Prop:=
 c = .ret/\tt g lm lr l8 S/\Boxed W g 3 (.int .i64 (Np.gD (Np.ar m) (Np.ar n)))/\Boxed W (g+1) 34 (.int .i64 0)/\Below w.heap.size w W
theorem yP(w:World)(g lm lr l8:Nat)(fv:Value)(m n:List UInt8)(B:Nat)(hB:w.heap.size<=B):fN B (tr w g lm lr l8 fv m n):=by
 rintro s S W W' ⟨hS,h1,h2,h3,⟨rem,h4,h5⟩,h6⟩ aq;exact⟨hS,eS h1 aq ((hS _).2 (.inl rfl)),eS h2 aq ((hS _).2 (.inr (.inl rfl))),eS h3 aq ((hS _).2 (.inr (.inr (.inr (.inr rfl))))),
  ⟨rem,h4.it aq ((hS _).2 (.inr (.inr (.inl rfl)))) ((hS _).2 (.inr (.inr (.inr (.inl rfl))))),h5⟩,nt h6 aq hB (bQ _)⟩
theorem Fr(w:World)(g lm lr l8:Nat)(m n:List UInt8)(B:Nat)(hB:w.heap.size<=B)(c:Code):fN B (tu w g lm lr l8 m n c):=by
 rintro s S W W' ⟨hc,hS,h1,h2,h6⟩ aq;exact⟨hc,hS,eS h1 aq ((hS _).2 (.inl rfl)),eS h2 aq ((hS _).2 (.inr (.inl rfl))),nt h6 aq hB (bQ _)⟩
theorem ua.rd{W W':World}{lm lr:Nat}{rem:List (List UInt8)}{e:Ending}(h:ua W lm lr rem e W'):(rem = []/\e = .returned (.tuple #[.string ⟨#[]⟩,.bool false])/\W'=W)\/
 ∃ x rest,rem=x::rest/\e = .returned (.tuple #[bl x,.bool true])/\ff W' lm lr rest/\(∀ S:Nat->Prop,S lm->S lr->RdStep S W W')/\(∀ b t v,b≠lm->b≠lr->Boxed W b t v->Boxed W' b t v)/\(∀ (n:Nat) (w:World),n<=lm->n<=lr->Below n w W->Below n w W'):=by
 rcases h with h | ⟨x,rest,h1,h2,h3,b,u,hb,rfl⟩
 ·exact .inl h
 ·refine .inr ⟨x,rest,h1,h2,h3,λS s1 s2=>?_,λb' t v n1 n2 hv=>bI hv (by rcases hb with rfl | rfl<;>assumption) _,λn w n1 n2 hB=>hB.setCell (p:=⟨b,0,none⟩) (by rcases hb with rfl | rfl<;>assumption) _⟩;exact RdStep.setCell (RdStep.refl S W) (.inl (by rcases hb with rfl | rfl<;>assumption)) _
theorem yR{w:World}{lm lr l8:Nat}{fv:Value}{m n:List UInt8}{pre:List (List UInt8)}{S:Nat->Prop}{W W3:World}{a:Act}{v0 v1:Value}{q:Int}(hS:tt w.heap.size lm lr l8 S)
 (hr:RdStep S W W3) (af:∀ k,S k->k<W.heap.size) (c0:Boxed W3 w.heap.size 3 v0) (c1:Boxed W3 (w.heap.size+1) 34 v1) (hB:Below w.heap.size w W3) (hv:Np.gD (Np.ar m) (Np.ar n)=q) :
 ic (tr w w.heap.size lm lr l8 fv m n) (tu w w.heap.size lm lr l8 m n) pre S W .ret a ((W3.setCell ⟨w.heap.size,0,none⟩ (.int .i64 q)).setCell ⟨w.heap.size+1,0,none⟩ (.int .i64 0)):=
 ⟨S,(hr.setCell (.inl ((hS _).2 (.inl rfl))) _).setCell (.inl ((hS _).2 (.inr (.inl rfl)))) _,λ_ e=>.inl e,λk e=>by have:=af k e;have:=hr.size;simp[World.setCell];omega,rfl,hS,
  by rw[hv];exact bI (c0.set _) (by simp) _,(bI c1 (by simp) _).set _,(hB.setCell (bQ _) _).setCell (by simp) _⟩
def kL(a b:List UInt8):Value:=if Np.ao a&&Np.ao b then .tuple #[.int .i64 (Np.gE a b),.int .i64 0] else .tuple #[.int .i64 0,.int .i64 11]
theorem Mf(a b:ByteArray)(ha:a.size<=140737488355328)(hb:b.size<=140737488355328)(w:World) :
 Calls prog 256 #[.string a,.string b] w (aUQ w.heap.size w (kL a.data.toList b.data.toList)):=by
 refine (callsIn_wide (n:=0)).1 ?_;refine callsIn_of_wp_marks func256 rfl trivial ?_ rfl;simp only[ntmps256,List.size_toArray,List.length_cons,List.length_nil,Nat.reduceAdd,Nat.reduceSub,Array.replicate_succ,Array.replicate_zero,List.push_toArray,List.append_toArray,List.nil_append,List.cons_append];have b0:=Boxed.new w 3 (.int .i64 0);have b1:=Boxed.new (w.alloc (.cells #[.int .i64 0] 3)) 34 (.int .i64 0);rw[World.size_alloc] at b1;replace b0:=b0.alloc (.cells #[.int .i64 0] 34);have bJ:Below w.heap.size w ((w.alloc (.cells #[.int .i64 0] 3)).alloc (.cells #[.int .i64 0] 34)):=((vQ _ w).alloc (bQ _) _).alloc (by simp) _;gi_wp2_with fail;refine⟨trivial,rfl,?_⟩;refine (callsIn_wide.2 (jH a ha _)).mono ?_;rintro e w1 ⟨rfl,ay⟩;replace b0:=mM b0 ay (by simp;omega);replace b1:=mM b1 ay (by simp);replace bJ:=bJ.trans (ay.mono (by simp;omega));clear ay;have uy:∀ (W:World) (tmps:Array Value),Boxed W w.heap.size 3 (.int .i64 0)->Boxed W (w.heap.size+1) 34 (.int .i64 11)->Below w.heap.size w W->(Np.ao a.data.toList&&Np.ao b.data.toList)=false->
  tmps[4]?=some (.pointer (some ⟨w.heap.size,0,none⟩))->tmps[5]?=some (.pointer (some ⟨w.heap.size+1,0,none⟩))->
  bodyPostM Fence.wide 0 prog Tryz.f256 (λe w'=>e = .returned (kL a.data.toList b.data.toList)/\Below w.heap.size w w') .ret { tmps:=tmps,defers:=[] } W:=λW tmps c0 c1 hB hv t4 t5=>by
  have d0:=c0.cell;have d1:=c1.cell;exact pG (v:=.tuple #[.int .i64 0,.int .i64 11]) (by simp[results,results256,go_sem,d0,d1,t4,t5]) ⟨by rw[kL,hv];rfl,hB⟩
 have ga:=jq uy;clear uy;have c0:=b0.cell;have c1:=b1.cell;have f0:=b0.frozen;have f1:=b1.frozen
 cases va:Np.ao a.data.toList with
 | false=>
  gi_wp2_with fail;refine⟨trivial,?_⟩;gi_wp2_with fail;refine ga.out _ _ (bI (b0.set _) (by simp) _) ((bI b1 (by simp) _).set _) ((bJ.setCell (bQ _) _).setCell (by simp) _) (by rw[va];rfl) rfl rfl
 | true=>
  have VA:=jq va;clear va c0 c1 f0 f1;gi_wp2_with fail;refine⟨trivial,rfl,?_⟩;refine (callsIn_wide.2 (jH b hb _)).mono ?_;rintro e w2 ⟨rfl,ag⟩;have bp:w.heap.size+1<w1.heap.size:=b1.lt;replace b0:=aTY b0 ag;replace b1:=mM b1 ag bp;replace bJ:=bJ.trans (ag.aSZ);have eN:=ag.size;clear ag;have c0:=b0.cell;have c1:=b1.cell;have f0:=b0.frozen;have f1:=b1.frozen
  cases vb:Np.ao b.data.toList with
  | false=>
   gi_wp2_with fail;refine ga.out _ _ (bI (b0.set _) (by simp) _) ((bI b1 (by simp) _).set _) ((bJ.setCell (bQ _) _).setCell (by simp) _) (by rw[vb,Bool.and_false]) rfl rfl
  | true=>
   have VV:Hid ((Np.ao a.data.toList&&Np.ao b.data.toList)=true):=jq (by rw[VA.out,vb];rfl);clear vb VA ga;by_cases dO:a.data.toList=b.data.toList
   ·have Gf:(a.toList == b.toList)=true:=by rw[dQ,dQ,dO];simp
    gi_wp2_with fail;have d0:=(bI (b0.set (.int .i64 0)) (p:=⟨w.heap.size+1,0,none⟩) (by simp) (.int .i64 0)).cell;have d1:=((bI b1 (p:=⟨w.heap.size,0,none⟩) (by simp) (.int .i64 0)).set (.int .i64 0)).cell;exact pG (v:=.tuple #[.int .i64 0,.int .i64 0]) (by simp[results,results256,go_sem,d0,d1]) ⟨by rw[kL,VV.out,dO];simp[Np.gE],(bJ.setCell (bQ _) _).setCell (by simp) _⟩
   ·have Gf:(a.toList == b.toList)=false:=by rw[dQ,dQ];simpa using dO
    have HV:Hid (kL a.data.toList b.data.toList = .tuple #[.int .i64 (Np.gD (Np.ar a.data.toList) (Np.ar b.data.toList)),.int .i64 0]):=jq (by rw[kL,VV.out];simp[Np.gE,dO]);clear dO;gi_wp2_with fail;refine⟨trivial,rfl,?_⟩;refine (callsIn_wide.2 (DO b hb _)).mono ?_;rintro e w3 ⟨rfl,im,ai,bu⟩;have eo:=jq bu;clear bu;replace b0:=aTY b0 ai;replace b1:=aTY b1 ai;replace bJ:=bJ.trans (ai.aSZ);clear ai;have hl:=bJ.size;have b8:=Boxed.new w3 264 (.func (.func 304) #[] #[.pointer (some ⟨w2.heap.size+1,0,none⟩),.pointer (some ⟨w2.heap.size,0,none⟩)]);replace b0:=b0.alloc (.cells #[.func (.func 304) #[] #[.pointer (some ⟨w2.heap.size+1,0,none⟩),.pointer (some ⟨w2.heap.size,0,none⟩)]] 264);replace b1:=b1.alloc (.cells #[.func (.func 304) #[] #[.pointer (some ⟨w2.heap.size+1,0,none⟩),.pointer (some ⟨w2.heap.size,0,none⟩)]] 264);replace im:ff (w3.alloc (.cells #[.func (.func 304) #[] #[.pointer (some ⟨w2.heap.size+1,0,none⟩),.pointer (some ⟨w2.heap.size,0,none⟩)]] 264)) (w2.heap.size+1) w2.heap.size (Np.ar b.data.toList):=im.it (B:=w3.heap.size) (S:=λ_=>True) (qe _) trivial trivial;replace bJ:=bJ.alloc bJ.size (.cells #[.func (.func 304) #[] #[.pointer (some ⟨w2.heap.size+1,0,none⟩),.pointer (some ⟨w2.heap.size,0,none⟩)]] 264);clear c0 c1 f0 f1;have n8:=Boxed.new w3 264 .nilFunc;have n8c:=n8.cell;have n8f:=n8.frozen;gi_wp2_with fail;clear n8 n8c n8f;have Na:=enters_of func304 (by kernel_rfl) rfl;have Zj:w.heap.size+1<w2.heap.size:=by omega
    have bF:w3.heap.size=w2.heap.size+2:=eo.out;refine vx (n₀:=w.heap.size) (w0:=w) (first:=#[.string a]) (captured:=#[]) (gf:=187) rfl (enters_of func187 (by kernel_rfl) rfl) (mk:=λy=>#[.string a,y]) (λ_=>rfl)
     (ub a ha _ w) bJ bJ.size (λ_=>rfl) (tr w w.heap.size (w2.heap.size+1) w2.heap.size w3.heap.size (.func (.func 304) #[] #[.pointer (some ⟨w2.heap.size+1,0,none⟩),.pointer (some ⟨w2.heap.size,0,none⟩)]) a.data.toList b.data.toList)
     (tu w w.heap.size (w2.heap.size+1) w2.heap.size w3.heap.size a.data.toList b.data.toList)
     (yP _ _ _ _ _ _ _ _ _ bJ.size) (λc=>Fr _ _ _ _ _ _ _ _ bJ.size c)
     (λk=>k=w.heap.size\/k=w.heap.size+1\/k=w2.heap.size+1\/k=w2.heap.size\/k=w3.heap.size) (by intro k h;omega) (by intro k h;simp;omega)
     ⟨λ_=>Iff.rfl,b0,b1,b8,⟨_,im,λrest h=>by rw[h];rfl⟩,bJ⟩ ?round ?done ?stop
    case round=>
     rintro l0 pre x S W bw hI dz;clear bF;gi_wp2;refine⟨S,RdStep.refl _ _,λk e=>.inl e,dz,?_⟩;intro l W₂ aq;obtain⟨hS,c0,c1,c8,⟨rem,hp,jx⟩,hB⟩:=yP w w.heap.size _ _ _ _ _ _ _ bJ.size pre S W W₂ hI aq;have c8c:=c8.cell;have ft:∀ k,S k->k<W₂.heap.size:=λk e=>lqQ (dz k e) aq.size;have hx:x∈Np.ar a.data.toList:=bw.subset (by simp);have m9:x.length<=140737488355328:=by have:=Np.sr hx;rw[be] at this;omega
     obtain⟨rest,ey⟩:=bw;have fh:=jx (x::rest) (by rw[<-ey];simp);have HR:=jq ey;have HG:=jq fh;clear ey fh jx hx hI aq b0 b1 b8 im;gi_wp2_with fail;refine⟨trivial,rfl,?_⟩;refine (CallsIn.inRound l (callsIn_wide.2 (DI (w2.heap.size+1) w2.heap.size (by omega) rem _ hp))).mono ?_;intro e W3 hP;rcases hP.rd with ⟨fX,rfl,rfl⟩ | ⟨y,rem',fX,rfl,hp',aZ,dP,dB⟩
     ·have c0c:=c0.cell;have c1c:=c1.cell;have c0f:=c0.frozen;have c1f:=c1.frozen;have iu:=jq fX;clear fX hP;gi_wp2_with fail;exact yR hS (RdStep.refl S _) ft c0 c1 hB (by rw[HG.out,iu.out];rfl)
     ·have iu:=jq fX;replace c0:=dP _ _ _ (by omega) (by omega) c0;replace c1:=dP _ _ _ (by omega) (by omega) c1;replace c8:=dP _ _ _ (by have:=eo.out;omega) (by have:=eo.out;omega) c8;have nG:=aZ S ((hS _).2 (.inr (.inr (.inl rfl)))) ((hS _).2 (.inr (.inr (.inr (.inl rfl)))));have hB':=dB w.heap.size w (by omega) (by omega) hB;have c0c:=c0.cell;have c1c:=c1.cell;have c0f:=c0.frozen;have c1f:=c1.frozen;clear fX hP aZ dP dB c8c hp hB;have fh:Np.gD (Np.ar a.data.toList) (Np.ar b.data.toList)=if Np.cW x y≠0 then Np.cW x y else Np.gD rest rem':=by rw[HG.out,iu.out];rfl
      have nk:=jq fh;clear fh HG;have cO:=IF ⟨x.toArray⟩ ⟨y.toArray⟩ W3;by_cases hc:Np.cW x y=0
      ·have dR:(Np.cW x y != 0)=false:=by simp[hc]
       have HC:=jq hc;clear hc;gi_wp2_with (refine⟨trivial,rfl,?_⟩;gi_at_call 287;refine (CallsIn.inRound l (callsIn_wide.2 cO)).mono ?_;rintro e w' ⟨rfl,rfl⟩);refine⟨S,nG,λ_ e=>.inl e,λk e=>by have:=ft k e;have:=nG.size;omega,hS,c0,c1,c8,⟨rem',hp',λr hr=>?_⟩,hB'⟩
       have:r=rest:=List.append_cancel_left (hr.symm.trans HR.out.symm)
       rw[nk.out,Qc (λh=>h HC.out),this]
      ·have dR:(Np.cW x y != 0)=true:=by simpa using hc
       have HC:=jq hc;clear hc;gi_wp2_with (refine⟨trivial,rfl,?_⟩;gi_at_call 287;refine (CallsIn.inRound l (callsIn_wide.2 cO)).mono ?_;rintro e w' ⟨rfl,rfl⟩);exact yR hS nG ft c0 c1 hB' (by rw[nk.out,QbQ HC.out])
    case done=>
     rintro D S W hD df aP ⟨hS,c0,c1,c8,⟨rem,hp,jx⟩,hB⟩ hK;clear bF b0 b1 b8 im;have c0c:=c0.cell;have c1c:=c1.cell;have c0f:=c0.frozen;have c1f:=c1.frozen;have jY:Np.gD (Np.ar a.data.toList) (Np.ar b.data.toList) = -1:=by rw[jx [] (by simp)];rfl
     have HE:=jq jY;have qS:w.heap.size≠D:=λe=>df ((hS _).2 (.inl e.symm));have jW:w.heap.size+1≠D:=λe=>df ((hS _).2 (.inr (.inl e.symm)));have oa:w.heap.size<=D:=by have:=bJ.size;omega
     clear jY jx hp c8;gi_wp2;have hK':((W.setCell ⟨w.heap.size,0,none⟩ (.int .i64 (-1))).setCell ⟨w.heap.size+1,0,none⟩ (.int .i64 0)).heap[D]?=some (.deferred (some [])):=
      (wQ _ _ _ _ (by simpa using jW.symm)).trans ((wQ _ _ _ _ (by simpa using qS.symm)).trans hK)
     have d0:=(mN (bI (c0.set (.int .i64 (-1))) (p:=⟨w.heap.size+1,0,none⟩) (by simp) (.int .i64 0)) qS (.deferred none)).cell;have d1:=(mN ((bI c1 (p:=⟨w.heap.size,0,none⟩) (by simp) (.int .i64 (-1))).set (.int .i64 0)) jW (.deferred none)).cell;exact iw hK' (v:=.tuple #[.int .i64 (-1),.int .i64 0]) (by simp[results,results256,go_sem,d0,d1]) ⟨by rw[HV.out,HE.out],ib ((hB.setCell (bQ _) _).setCell (by simp) _) oa _⟩
    case stop=>
     rintro D c pre S W hD df aP gU ⟨rfl,hS,c0,c1,hB⟩ hK;clear bF b0 b1 b8 im;have qS:w.heap.size≠D:=λe=>df ((hS _).2 (.inl e.symm));have jW:w.heap.size+1≠D:=λe=>df ((hS _).2 (.inr (.inl e.symm)));have oa:w.heap.size<=D:=by have:=bJ.size;omega
     gi_wp2;have d0:=(mN c0 qS (.deferred none)).cell;have d1:=(mN c1 jW (.deferred none)).cell;exact iw hK (v:=.tuple #[.int .i64 (Np.gD (Np.ar a.data.toList) (Np.ar b.data.toList)),.int .i64 0]) (by simp[results,results256,go_sem,d0,d1]) ⟨by rw[HV.out],ib hB oa _⟩
end
namespace Np
inductive Res (α:Type) where
 | ok (a:α) (r:List Tok)
 | err (e:Int) (r:List Tok)
deriving DecidableEq
structure Diag where
 err:Int
 pos:Int
deriving DecidableEq
def okR:List (List UInt8)->Bool
 | []=>true
 | [x]=>bT x||x == [42]
 | x::y::r=>bT x&&okR (y::r)
theorem aDQ:bT [42]=false:=by decide
theorem XP(xs:List (List UInt8))(n:Nat):cV xs n true=xs.isEmpty:=by cases xs<;>simp[cV]
theorem XO:∀ (xs:List (List UInt8)) (n:Nat),n<=8->cV xs n false=(decide (n+xs.length<=8)&&okR xs):=by
 intro xs
 induction xs with
 | nil=>intro n hn;simp[cV,okR,hn]
 | cons x xs ih=>
  intro n hn;rw[cV];by_cases h8:8<n+1
  ·rw[QbQ (by simp;omega),tQ (by simp;omega)];rfl
  ·rw[Qc (by simp;omega)];by_cases hx:x = [42]
   ·subst hx;rw[QbQ rfl,XP]
    cases xs with
    | nil=>simp[okR];omega
    | cons y r=>simp[okR,aDQ]
   ·rw[Qc hx];by_cases hl:bT x=true
    ·rw[QbQ hl,ih (n+1) (by omega)]
     cases xs with
     | nil=>simp[okR,hl]
     | cons y r=>simp only[okR,hl,Bool.true_and,List.length_cons];congr 1;congr 1;apply propext;omega
    ·rw[Qc hl]
     cases xs with
     | nil=>simp[okR,hl,hx]
     | cons y r=>simp[okR,hl]
def fZ:List (List UInt8)->Bool
 | []=>true
 | h::t=>(bT h||h == [42])&&t.all bT
theorem anX:∀ (a:List (List UInt8)) (h:List UInt8),okR (a ++ [h])=(a.all bT&&(bT h||h == [42])):=by
 intro a h
 induction a with
 | nil=>simp[okR]
 | cons x a ih=>
  cases a with
  | nil=>simp[okR]
  | cons y r=>
   simp only[List.cons_append,okR] at ih |-;rw[ih];simp[Bool.and_assoc]
theorem anK(l:List (List UInt8)):okR l.reverse=fZ l:=by
 cases l with
 | nil=>rfl
 | cons h t=>rw[List.reverse_cons,anX,fZ,List.all_reverse,Bool.and_comm]
theorem tp(s:List UInt8):ao s=if s = [46] then true else if 60<s.length then false else fZ (aR s)&&decide ((aR s).length<=8):=by
 unfold ao;split
 ·rfl
 ·split
  ·rfl
  ·rw[XO _ 0 (by omega),anK,List.length_reverse,Bool.and_comm];simp
def bR:List (List UInt8)->List UInt8
 | []=>[]
 | [x]=>x
 | x::y::r=>x++46::bR (y::r)
theorem aeX(c:UInt8)(x:List UInt8)(xs:List (List UInt8)):bR ((c::x)::xs)=c::bR (x::xs):=by
 cases xs<;>simp[bR]
theorem tl(s:List UInt8):bR (aR s)=s:=by
 induction s with
 | nil=>rfl
 | cons c r ih=>
  rw[aR];have hne:=nf r
  cases hr:aR r with
  | nil=>exact absurd hr hne
  | cons x xs=>
   rw[hr] at ih;split
   ·rename_i hc;subst hc;rw[bR,ih];rfl
   ·rw[aeX,ih]
theorem Ps:∀ (l m:List (List UInt8)),l≠[]->m≠[]->bR (l++m)=bR l++46::bR m:=by
 intro l
 induction l with
 | nil=>intro m h;exact absurd rfl h
 | cons x l ih=>
  intro m _ hm
  cases l with
  | nil=>
   cases m with
   | nil=>exact absurd rfl hm
   | cons y m=>simp[bR]
  | cons y l=>
   have:=ih m (by simp) hm
   simp only[List.cons_append,bR] at this |-;rw[this];simp
def bY(s:List UInt8):List (List UInt8):=if s = [46] then [] else aR s
theorem rA(s:List UInt8):(bY s).reverse=ar s:=by
 unfold bY ar;split<;>rfl
theorem Fl{a b:List UInt8}(h:ar a=ar b):a=b:=by
 unfold ar at h;by_cases ha:a = [46]
 ·by_cases hb:b = [46]
  ·rw[ha,hb]
  ·rw[QbQ ha,Qc hb] at h
   have:=nf b
   exact absurd (List.reverse_eq_nil_iff.1 h.symm) this
 ·by_cases hb:b = [46]
  ·rw[QbQ hb,Qc ha] at h;exact absurd (List.reverse_eq_nil_iff.1 h) (nf a)
  ·rw[Qc ha,Qc hb] at h
   have:=List.reverse_inj.1 h
   rw[<-tl a,this,tl]
def inL(l m:List (List UInt8)):Bool:=decide (m.length<=l.length)&&(l.drop (l.length - m.length) == m)
theorem xx{l m:List (List UInt8)} : inL l m=true↔∃ p,l=p++m:=by
 unfold inL;simp only[Bool.and_eq_true,Qa,beq_iff_eq];constructor
 ·rintro⟨h1,h2⟩;refine⟨l.take (l.length - m.length),?_⟩;rw[<-h2,List.length_drop]
  conv => lhs;rw[<-List.take_append_drop (l.length - m.length) l]
  congr 2;omega
 ·rintro⟨p,rfl⟩;refine⟨by simp,?_⟩;rw[List.length_append,Nat.add_sub_cancel,List.drop_left]
theorem vg{s z:List UInt8}(hz:z≠[]):inL (bY s) (bY z)=fk s z:=by
 rw[Bool.eq_iff_iff,xx];unfold fk bY;simp only[Bool.or_eq_true,Bool.and_eq_true,beq_iff_eq,Qa];by_cases h1:z = [46]
 ·rw[QbQ h1];exact⟨λ_=>.inl (.inr h1),λ_=>⟨_,(List.append_nil _).symm⟩⟩
 ·rw[Qc h1];by_cases h2:s = [46]
  ·rw[QbQ h2];constructor
   ·rintro⟨p,hp⟩
    have:=List.append_eq_nil_iff.1 hp.symm
    exact absurd this.2 (nf z)
   ·rintro ((h | h) | ⟨⟨h3,_⟩,_⟩)
    ·exact absurd (h ▸ h2) h1
    ·exact absurd h h1
    ·subst h2;have h4:z.length<1:=h3;exact absurd (rQ (by omega)) hz
  ·rw[Qc h2];constructor
   ·rintro⟨p,hp⟩;by_cases h0:p = []
    ·subst h0;rw[List.nil_append] at hp;left;left;rw[<-tl s,hp,tl]
    ·right;have hs:s=bR p++46::z:=by
      rw[<-tl s,hp,Ps _ _ h0 (nf z),tl]
     subst hs;refine⟨⟨by simp;omega,?_⟩,?_⟩
     ·rw[show (bR p++46::z).length - z.length=(bR p ++ [46]).length by simp;omega,show bR p++46::z=(bR p ++ [46])++z by simp,List.drop_left]
     ·rw[show (bR p++46::z).length - z.length - 1=(bR p).length by simp;omega];rw[oQ (bQ _)];simp
   ·rintro ((h | h) | ⟨⟨h3,h4⟩,h5⟩)
    ·exact⟨[],by rw[h];rfl⟩
    ·exact absurd h h1
    ·have hs:s=s.take (s.length - z.length - 1)++46::z:=by
      conv => lhs;rw[<-List.take_append_drop (s.length - z.length - 1) s]
      congr 1;obtain⟨hl,he⟩:=cQ.1 h5;rw[sQ hl,he,show s.length - z.length - 1+1=s.length - z.length by omega,h4]
     refine⟨aR (s.take (s.length - z.length - 1)),?_⟩
     conv => lhs;rw[hs]
     rw[rE]
def qh:List (List UInt8)->List (List UInt8)->Int
 | [],[]=>0
 | [],_::_=>-1
 | _::_,[]=>1
 | x::xs,y::ys=>if cW x y≠0 then cW x y else qh xs ys
theorem Wp(x:List UInt8):cW x x=0:=by
 have:∀ x:List UInt8,Go.Op.bytesLess x x=false:=by
  intro x
  induction x with
  | nil=>rfl
  | cons a x ih=>simp[Go.Op.bytesLess,ih]
 simp[cW,this]
theorem L8{x y:List UInt8}(h:cW x y=0):x=y:=by
 unfold cW at h;split at h
 ·omega
 ·split at h
  ·assumption
  ·omega
theorem aoJ(l:List (List UInt8)):qh l l=0:=by
 induction l with
 | nil=>rfl
 | cons x l ih=>rw[qh,Wp,Qc (by simp),ih]
theorem aoZ:∀ (l m:List (List UInt8)),l≠m->qh l m=gD l m:=by
 intro l
 induction l with
 | nil=>
  intro m h
  cases m with
  | nil=>exact absurd rfl h
  | cons y m=>rfl
 | cons x l ih=>
  intro m h
  cases m with
  | nil=>rfl
  | cons y m=>
   rw[qh,gD];by_cases hc:cW x y≠0
   ·rw[QbQ hc,QbQ hc]
   ·rw[Qc hc,Qc hc]
    have:=L8 (Decidable.not_not.1 hc)
    subst this;exact ih m (λe=>h (by rw[e]))
theorem Wl(a b:List UInt8):gE a b=qh (ar a) (ar b):=by
 unfold gE;split
 ·rename_i h;rw[h,aoJ]
 ·rename_i h;exact (aoZ _ _ (λe=>h (Fl e))).symm
theorem L7(a:List UInt8):gE a a=0:=by simp[gE]
theorem Wm{a b:List UInt8}(h:gE a b=0):a=b:=by
 rw[Wl] at h;refine Fl ?_
 have:∀ l m:List (List UInt8),qh l m=0->l=m:=by
  intro l
  induction l with
  | nil=>intro m h;cases m with
    | nil=>rfl
    | cons y m=>simp[qh] at h
  | cons x l ih=>
   intro m h
   cases m with
   | nil=>simp[qh] at h
   | cons y m=>
    rw[qh] at h;split at h
    ·rename_i hc;exact absurd h hc
    ·rename_i hc;rw[L8 (Decidable.not_not.1 hc),ih m h]
 exact this _ _ h
theorem L9(a b:DSet):vZ a b=if gE a.name b.name≠0 then gE a.name b.name else ma a.type b.type:=by
 unfold vZ;by_cases h:a.name=b.name
 ·rw[Qc (by simp[h]),h,L7,Qc (by simp)]
 ·rw[QbQ h,QbQ (λe=>h (Wm e))]
end Np
end Go.Proofs.YtadhigmjilijcaaGreatDoor
