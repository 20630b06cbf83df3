/- Parts of the proof. No condition. -/
import Derived.Lib.Hide
import Derived.WalkSpells
import Derived.WalkLawsBesides
import Derived.BigGuardPart
import Derived.StillTailTactics
import Derived.Deep.Light
import Derived.Test.YtfnopgdcaanaiaaGreatDoorProg
import Derived.RangeFuncNested
import Derived.RangeFuncBound
import Derived.Shelf.RegionOpen
import Derived.OwnWalkIn
import Derived.LoopNIn
import Derived.LoopIn
import Derived.Shelf.Small.Strs
import Derived.Laws.EntriesVeiled
set_option linter.all false
set_option maxRecDepth 100000
set_option maxHeartbeats 8000000
namespace Go.Proofs.YtfnopgdcaanaiaaGreatDoor
open Go.Proofs.Tryz
section
open Go.RowKit
theorem jq{p:Prop}(h:p):Hid p:=Lib.hid h
theorem cl{B:Nat}{w w':World}(h:Below B w w'){b o:Nat}(hb:b<B):w'.cell? ⟨b,o,none⟩=w.cell? ⟨b,o,none⟩:=h.cell hb
theorem aQ.{u}{α:Type u}{l:List α}{i:Nat}(h:i<l.length):l[i]?=some l[i]:=List.getElem?_eq_getElem h
theorem bQ(n:Nat):n≤n:=Nat.le_refl n
theorem cQ.{u}{α:Type u}{i:Nat}{a:α}{l:List α}:l[i]?=some a↔∃ h:i<l.length,l[i]=a:=List.getElem?_eq_some_iff
theorem dQ(b:ByteArray):b.toList=b.data.toList:=ByteArray.toList_eq b
theorem eQ.{u}{α:Type u}{i:Nat}{b:α}{xs:Array α}:xs[i]?=some b↔∃ h:i<xs.size,xs[i]=b:=Array.getElem?_eq_some_iff
theorem fQ.{u}{α:Type u}{i:Nat}{l:List α}(h:i<l.length):l.take (i+1)=l.take i++[l[i]]:=List.take_succ_eq_append_getElem h
theorem gQ.{u}{α:Type u}{l:List α}{i:Nat}{a:α}(e:l[i]?=some a):a∈l:=List.mem_of_getElem? e
theorem Qh.{u}{α:Type u}{a:α}:¬a∈([]:List α):=List.not_mem_nil
theorem iQ{w w':World}{a:Addr}(h:w'.heap[a.block]?=w.heap[a.block]?):w'.cell? a=w.cell? a:=World.cell?_of_block h
theorem jQ(n:Nat):0≤n:=Nat.zero_le n
theorem kQ.{u}{α:Type u}{i:Nat}{l:List α}(h:l.length≤i):l.take i=l:=List.take_of_length_le h
theorem lQ{n m k:Nat}:n<m→m≤k→n<k:=Nat.lt_of_lt_of_le
theorem mQ.{u}{α:Type u}(y:α){a:α}{l:List α}:a∈l→a∈y::l:=List.mem_cons_of_mem y
theorem nQ.{u}{α:Type u}{a:α}{l:List α}:a∈l↔∃ (i:Nat) (h:i<l.length),l[i]=a:=List.mem_iff_getElem
theorem oQ.{u}{α:Type u}{l₁ l₂:List α}{i:Nat}:l₁.length≤i→(l₁++l₂)[i]?=l₂[i-l₁.length]?:=List.getElem?_append_right
theorem pQ.{u}{α:Type u}{xs:Array α}{i:Nat}(h:i<xs.size):xs[i]?=some xs[i]:=Array.getElem?_eq_getElem h
theorem rQ.{u}{α:Type u}{l:List α}:l.length=0→l=[]:=List.eq_nil_of_length_eq_zero
theorem sQ.{u}{α:Type u}{i:Nat}{l:List α}(h:i<l.length):l.drop i=l[i]::l.drop (i+1):=List.drop_eq_getElem_cons h
theorem tQ{p:Prop}[Decidable p]:¬p→decide p=false:=decide_eq_false
theorem uQ{p:Prop}[Decidable p]:p→decide p=true:=decide_eq_true
theorem vQ(B:Nat)(w:World):Below B w w:=Below.refl B w
theorem wQ(w:World)(a:Addr)(u:Value)(k:Nat)(h:k≠a.block):(w.setCell a u).heap[k]?=w.heap[k]?:=Below.heap_setCell w a u k h
theorem xQ(w:World)(a b:Addr)(v:Value)(h:a≠b):(w.setCell a v).cell? b=w.cell? b:=World.cell?_setCell_other w a b v h
theorem yQ{n m k:Nat}:n≤m→m≤k→n≤k:=Nat.le_trans
theorem zQ{r k:Nat}{o:Obj}{w:World}(h:k≠r):(w.putObj r o).heap[k]?=w.heap[k]?:=World.putObj_heap_other h
theorem Qa{p:Prop}[Decidable p]:(decide p=true)=p:=decide_eq_true_eq
theorem Qb.{u}{c:Prop}{h:Decidable c}(hc:c){α:Sort u}{t e:α}:ite c t e=t:=if_pos hc
theorem Qc.{u}{c:Prop}{h:Decidable c}(hn:¬c){α:Sort u}{t e:α}:ite c t e=e:=if_neg hn
theorem Qd.{u,v}{α:Sort u}{β:Sort v}{a b:α}(f:α->β)(h:a=b):f a=f b:=congrArg f h
theorem abZ{B:Nat}{w w':World}(h:Below B w w'){b o:Nat}{v:Option Value}(e:w.cell? ⟨b,o,none⟩=v)(hb:b<B:=by omega):w'.cell? ⟨b,o,none⟩=v:=(h.cell hb).trans e
theorem abJ{n m:Nat}{a b c:World}(h:Hid (Below n a b))(k:Below m b c)(e:n≤m:=by omega):Hid (Below n a c):=jq (h.out.trans (k.mono e))
theorem abX.{u}{α:Sort u}(e:α):∃ r,r=e:=⟨_,rfl⟩
abbrev aeJ(n:Nat)(w:World)(v:Value)(e:Ending)(w':World):Prop:=e = .returned v/\Below n w w'
abbrev aeY(w:World)(v:Value)(e:Ending)(w':World):Prop:=e = .returned v/\w=w'
abbrev afQ(α:Type):=World->Nat->List Value->α->Prop
theorem abK.{u}{α:Sort u}(e:α):∃ r,e=r:=⟨_,rfl⟩
theorem _root_.Go.RowKit.Below.acQ{n m:Nat}{a b:World}(h:Below m a b)(e:n≤m:=by omega):Below n a b:=h.mono e
theorem acJ{p:Prop}[Decidable p](h:¬p:=by omega):decide p=false:=decide_eq_false h
theorem acK{p:Prop}[Decidable p](h:p:=by omega):decide p=true:=decide_eq_true h
theorem adQ.{u}{α:Type u}{a b:α}(h:a=b:=by kernel_rfl):some a=some b:=congrArg some h
def bi(w:World):Type:={ x:World // Below w.heap.size w x }
def bi.w{w:World}(g:bi w):World:=g.1
theorem bi.below{w:World}(g:bi w):Below w.heap.size w g.w:=g.2
instance (w:World):Nonempty (bi w):=⟨⟨w,vQ _ _⟩⟩
theorem bi.cell{w:World}(g:bi w)(p:Addr)(h:p.block<w.heap.size):g.w.cell? p=w.cell? p:=g.2.cell h
theorem bi.frozen{w:World}(g:bi w)(p:Addr)(h:p.block<w.heap.size):g.w.frozen? p=w.frozen? p:=g.2.frozen h
theorem bi.size{w:World}(g:bi w):w.heap.size<=g.w.heap.size:=g.2.size
def wD(w:World)(w':World):Prop:=∃ g:bi w,w'=g.w
theorem wD.of{w w':World}(h:Below w.heap.size w w'):wD w w':=⟨⟨w',h⟩,rfl⟩
theorem Calls.grow_of{P:Program}{f:FuncId}{args:Array Value}{w:World}{g:bi w}{v:Value}
 (h:Calls P f args g.w λe w'=>e = .returned v/\Below g.w.heap.size g.w w'):Calls P f args g.w λe w''=>e = .returned v/\∃ g':bi w,w''=g'.w:=
 h.mono λ_ w' ⟨he,hm⟩=>⟨he,⟨w',g.2.trans (hm.mono g.2.size)⟩,rfl⟩
section
variable {P:Program}
theorem eH{id:Nat}{Q:Exit->Act->World->Prop}{a:Act}{w:World}{l:List Oper}(hm:P.follows .mixedOrders=true)(hB:Region.lexB .any l.toArray=true)
 (h:wpQuiet P l.toArray (λw'=>∃ g:bi w,w'=g.w) (λa'=>∀ w',(∃ g:bi w,w'=g.w)->Q .normal a' w') l a):(Code.region id l.toArray true).wp P Q a w:=
 wp_region_quiet (C:=λw'=>∃ g:bi w,w'=g.w) hm hB ⟨⟨_,(vQ w.heap.size w).drew⟩,rfl⟩ (by simpa using h)
end
theorem qT{W w1:World}(hb:Below W.heap.size W w1):(∀ b o,b<W.heap.size->w1.cell? ⟨b,o,none⟩=W.cell? ⟨b,o,none⟩)/\(∀ b o,b<W.heap.size->w1.frozen? ⟨b,o,none⟩=W.frozen? ⟨b,o,none⟩):=
 ⟨λb o h=>hb.cell (p:=⟨b,o,none⟩) h,λb o h=>hb.frozen (p:=⟨b,o,none⟩) h⟩
theorem ae{a b:Bool}(h:a=b):Ending.returned (.bool a) = .returned (.bool b):=by rw[h]
theorem gE{k:IntKind}{a b:Int}(h:a=b):Ending.returned (.int k a) = .returned (.int k b):=by rw[h]
theorem aX(s:ByteArray):s.data.toList.length=s.size:=rfl
theorem uN(s:ByteArray)(k:Nat)(h:k<s.size):s.data.toList[k]?=some s[k]:=by
 rw[aQ (by rw[aX];exact h)];rfl
theorem yI(s:ByteArray)(h:0<s.size):s.data.toList.head?=some s[0]:=by
 rw[List.head?_eq_getElem?];exact uN s 0 h
theorem CJ(s:ByteArray)(h:s.size - 1<s.size):s.data.toList.getLast?=some s[s.size - 1]:=by
 rw[List.getLast?_eq_getElem?,aX];exact uN s _ h
theorem Hj(s:ByteArray)(k:Nat)(h:k<s.size):s.data.toList.take (k+1)=s.data.toList.take k ++ [s[k]]:=by
 rw[fQ (by simpa using h)];rfl
theorem Dg(s:ByteArray)(k:Nat)(h:s.size<=k):s.data.toList.take k=s.data.toList:=kQ (by rw[aX];exact h)
theorem no(c:UInt8)(n:Nat)(hn:n<256):(c == UInt8.ofNat n)=decide ((c.toNat:Int)=n):=by
 rw[Bool.eq_iff_iff];simp only[beq_iff_eq,Qa];constructor
 ·rintro rfl;simp;omega
 ·intro h;apply UInt8.toNat_inj.1;simp;omega
theorem wk(c:UInt8):0<=(c.toNat:Int)/\(c.toNat:Int)<=255:=by have:=UInt8.toNat_lt c;omega
theorem jD{s t:ByteArray}(h:s.data.toList=t.data.toList):s=t:=by
 cases s;cases t;simp only at h |-;congr 1;exact Array.toList_inj.1 h
theorem E5(s:ByteArray)(i j:Nat):(s.extract i j).data.toList=(s.data.toList.take j).drop i:=by
 rw[ByteArray.data_extract];simp[Array.toList_extract,List.extract_eq_take_drop,List.drop_take]
theorem BG(s:ByteArray)(i:Nat):(s.extract i s.size).data.toList=s.data.toList.drop i:=by
 rw[E5,kQ (by rw[aX];exact bQ _)]
theorem BH(s:ByteArray)(j:Nat):(s.extract 0 j).data.toList=s.data.toList.take j:=by rw[E5];rfl
theorem OH{P:Program}{id:Nat}{Q:Exit->Act->World->Prop}{a:Act}{w:World}{l:List Oper}(n:Nat)(hm:P.follows .mixedOrders=true)(hB:Region.lexTailB .any l.toArray n=true)
 (h:wpStill P l.toArray w.drew (λa'=>wpList P l.toArray Q (l.drop n) a' w.drew) (l.take n) a):(Code.region id l.toArray true).wp P Q a w:=wp_region_still_tail n hm hB h
theorem Calls.still_same{P:Program}{f:FuncId}{args:Array Value}{w:World}{v:Value}(h:Calls P f args w λe w'=>e = .returned v/\w=w'):Calls P f args w λe w''=>e = .returned v/\w''=w:=
 h.mono λ_ _ ⟨he,hw⟩=>⟨he,hw.symm⟩
def fZ(w:World)(b o:Nat)(e:List Value):Prop:=∀ j v,e[j]?=some v->w.cell? ⟨b,o+j,none⟩=some v
theorem fZ.keep{w w':World}{b o:Nat}{e:List Value}{B:Nat}(h:fZ w b o e)(hb:Below B w w')(hB:b<B):fZ w' b o e:=
 λj v hj=>(hb.cell (p:=⟨b,o+j,none⟩) hB).trans (h j v hj)
def SlR{α:Type}(R:afQ α)(sz:Nat)(w:World)(B:Nat)(v:Value)(xs:List α):Prop:=
 ∃ (A:Option Addr) (c:Nat),v = .slice A xs.length c/\xs.length<=c/\xs.length<=140737488355328/\∀ i x,xs[i]?=some x->∃ b o e,A=some ⟨b,o,none⟩/\b<B/\e.length=sz/\fZ w b (o+i * sz) e/\R w B e x
def cL{α:Type}(R:afQ α):Prop:=∀ w w' B e x,R w B e x->Below B w w'->R w' B e x
theorem SlR.keep{α:Type}{R:afQ α}{sz:Nat}{w w':World}{B:Nat}{v:Value}{xs:List α}(hR:cL R)(h:SlR R sz w B v xs)(hb:Below B w w'):SlR R sz w' B v xs:=by
 obtain⟨A,c,hv,hc,hl,he⟩:=h;refine⟨A,c,hv,hc,hl,λi x hx=>?_⟩;obtain⟨b,o,e,hA,hB,aC,hce,hr⟩:=he i x hx;exact⟨b,o,e,hA,hB,aC,hce.keep hb hB,hR _ _ _ _ _ hr hb⟩
def dD{α:Type}(R:afQ α):Prop:=∀ w B B' e x,R w B e x->B<=B'->R w B' e x
theorem SlR.more{α:Type}{R:afQ α}{sz:Nat}{w:World}{B B':Nat}{v:Value}{xs:List α}(hR:dD R)(h:SlR R sz w B v xs)(hB:B<=B'):SlR R sz w B' v xs:=by
 obtain⟨A,c,hv,hc,hl,he⟩:=h;refine⟨A,c,hv,hc,hl,λi x hx=>?_⟩;obtain⟨b,o,e,hA,hb,aC,hce,hr⟩:=he i x hx;exact⟨b,o,e,hA,by omega,aC,hce,hR _ _ _ _ _ hr hB⟩
theorem adX{P:Program}{id:Nat}{Q:Exit->Act->World->Prop}{a:Act}{w:World}{l:List Oper}(h:wpQuiet P l.toArray (λw'=>∃ g:bi w,w'=g.w) (λa'=>∀ w',(∃ g:bi w,w'=g.w)->Q .normal a' w') l a)(hm:P.follows .mixedOrders=true:=by kernel_rfl)(hB:Region.lexB .any l.toArray=true:=by kernel_rfl):(Code.region id l.toArray true).wp P Q a w:=eH hm hB h
end
namespace Np
def oS(c:UInt8):Bool:=97<=c&&c<=122
def mo(c:UInt8):Bool:=48<=c&&c<=57
def lG(c:UInt8):Bool:=oS c||mo c||c == 45
def bP(l:List UInt8):Bool:=decide (1<=l.length)&&decide (l.length<=12)&&!(l.head? == some 45)&&!(l.getLast? == some 45)&&l.all lG
def EQ(l:List UInt8)(c:UInt8)(r:Int):Prop:=(r = -1/\c∉l)\/∃ a b,l=a++c::b/\c∉b/\r=a.length
def aT:List UInt8->List (List UInt8)
 | []=>[[]]
 | c::r=>if c=46 then []::aT r else match aT r with
   | x::xs=>(c::x)::xs
   | []=>[[c]]
theorem o8(l:List UInt8):aT l≠[]:=by
 cases l with
 | nil=>simp[aT]
 | cons c r=>
  unfold aT;split
  ·simp
  ·split <;> simp
theorem vX{l:List UInt8}(h:46∉l):aT l = [l]:=by
 induction l with
 | nil=>rfl
 | cons c r ih=>
  have h1:c≠46:=λe=>h (by simp[e]);have h2:46∉r:=λe=>h (by simp[e]);unfold aT;rw[Qc h1,ih h2]
theorem Ak(a b:List UInt8):aT (a++46::b)=aT a++aT b:=by
 induction a with
 | nil=>simp[aT]
 | cons c r ih=>
  rw[List.cons_append];by_cases h:c=46
  ·rw[aT,Qb h,aT,Qb h,ih];rfl
  ·rw[aT,Qc h,aT,Qc h,ih];have hne:=o8 r
   cases hr:aT r with
   | nil=>exact absurd hr hne
   | cons x xs=>rfl
def back(l:List UInt8):List (List UInt8):=if l = [46] then [] else (aT l).reverse
def eu:List (List UInt8)->Nat->Bool->Bool
 | [],_,_=>true
 | x::xs,n,wild=>if wild||decide (8<n+1) then false else if x = [42] then eu xs (n+1) true else if bP x then eu xs (n+1) false else false
def aD(l:List UInt8):Bool:=if l = [46] then true else if 60<l.length then false else eu (aT l).reverse 0 false
theorem Hb{l y:List UInt8}(h:y∈aT l):y.length<=l.length:=by
 induction l generalizing y with
 | nil=>simp[aT] at h;subst h;simp
 | cons c r ih=>
  unfold aT at h;split at h
  ·rcases List.mem_cons.1 h with e | e
   ·subst e;simp
   ·have:=ih e;simp;omega
  ·split at h
   ·rename_i x xs hx;rcases List.mem_cons.1 h with e | e
    ·subst e;have:=ih (y:=x) (by rw[hx];simp);simp;omega
    ·have:=ih (y:=y) (by rw[hx];simp[e]);simp;omega
   ·simp at h;subst h;simp
theorem By{l y:List UInt8}(h:y∈back l):y.length<=l.length:=by
 unfold back at h;split at h
 ·cases h
 ·exact Hb (List.mem_reverse.1 h)
def mO(c:UInt8):Bool:=oS c||mo c||c == 32
def iV(l:List UInt8):Bool:=decide (1<=l.length)&&decide (l.length<=40)&&!(l.head? == some 32)&&!(l.getLast? == some 32)&&l.all mO
def dO(l:List UInt8):Bool:=l.head? == some 42
structure Rule where
 text:Int
 leastN:Int
 mostN:Int
 leastM:Int
 mostM:Int
 even:Bool
 single:Bool
 wild:Bool
structure Datum where
 text:List UInt8
 n:Int
 m:Int
deriving DecidableEq
def ue(k:Int)(l:List UInt8):Bool:=if k=1 then aD l&&!dO l else if k=2 then aD l else if k=3 then iV l else l == []
def iZ(r:Rule)(d:Datum):Bool:=
 (decide (r.leastN<=d.n)&&decide (d.n<=r.mostN))&&(decide (r.leastM<=d.m)&&decide (d.m<=r.mostM))&&!(r.even&&(d.n.tmod 2 != 0))&&ue r.text d.text
def bX(a b:List UInt8):Int:=if Go.Op.bytesLess a b then -1 else if a=b then 0 else 1
def b7(a b:Int):Int:=if a<b then -1 else if b<a then 1 else 0
def oC(a b:Datum):Int:=if bX a.text b.text≠0 then bX a.text b.text else if b7 a.n b.n≠0 then b7 a.n b.n else b7 a.m b.m
def rules:List Rule:=[⟨0,0,0,0,0,false,false,false⟩,⟨0,1,1000000,0,0,false,false,true⟩,⟨1,0,0,0,0,false,false,false⟩,⟨1,0,0,0,0,false,true,false⟩,⟨0,0,65535,0,100000,false,true,false⟩,
 ⟨3,0,0,0,0,false,false,true⟩,⟨0,1,1000000,1,3,false,false,false⟩,⟨0,1,1000000,1,3,false,false,false⟩,⟨2,2,510,0,0,true,false,true⟩]
def bD(k:Int):Rule:=rules.getD k.toNat ⟨0,0,0,0,0,false,false,false⟩
structure DSet where
 name:List UInt8
 type:Int
 life:Int
 data:List Datum
deriving DecidableEq
def il(r:Rule):Option Datum->List Datum->Bool
 | _,[]=>true
 | p,d::ds=>iZ r d&&(match p with | none=>true | some q=>decide (oC q d<0))&&il r (some d) ds
def da(s:DSet):Bool:=
 aD s.name&&(decide (1<=s.type)&&decide (s.type<=8))&&(decide (0<=s.life)&&decide (s.life<=100000))&&(decide (1<=s.data.length)&&decide (s.data.length<=8)) &&
 !((bD s.type).single&&decide (s.data.length≠1))&&!(dO s.name&&!(bD s.type).wild)&&il (bD s.type) none s.data
theorem KA{r:Rule}{p:Option Datum}{ds:List Datum}{j:Nat}{d:Datum}(hd:ds[j]?=some d)(h:iZ r d=false):il r p (ds.drop j)=false:=by
 rw[sQ (cQ.1 hd).1,(cQ.1 hd).2];simp[il,h]
theorem KB{r:Rule}{ds:List Datum}{d:Datum}(hd:ds[0]?=some d)(h:iZ r d=true):il r (ds.take 0).getLast? (ds.drop 0)=il r (ds.take 1).getLast? (ds.drop 1):=by
 cases ds with
 | nil=>simp at hd
 | cons x r=>simp at hd;subst hd;simp[il,h]
theorem KC{r:Rule}{ds:List Datum}{j:Nat}{q d:Datum}(hq:ds[j]?=some q)(hd:ds[j+1]?=some d)(h:iZ r d=true) :
 il r (ds.take (j+1)).getLast? (ds.drop (j+1))=if oC q d<0 then il r (ds.take (j+1+1)).getLast? (ds.drop (j+1+1)) else false:=by
 have h1:=(cQ.1 hq);have h2:=(cQ.1 hd);rw[sQ h2.1,h2.2,fQ h1.1,h1.2,fQ h2.1,h2.2];simp only[List.getLast?_append,List.getLast?_singleton,Option.some_or,il,h];split <;> rename_i hc <;> simp[hc]
end Np
section
open Go.RowKit
theorem MA(c:UInt8):Np.lG c=decide ((97<=(c.toNat:Int)/\(c.toNat:Int)<=122)\/(48<=(c.toNat:Int)/\(c.toNat:Int)<=57)\/(c.toNat:Int)=45):=by
 have h:=no c 45 (by decide);unfold Np.lG Np.oS Np.mo;rw[show (45:UInt8)=UInt8.ofNat 45 from rfl,h,Bool.eq_iff_iff];simp[UInt8.le_iff_toNat_le];omega
theorem VJ(s:ByteArray)(h:(s.size:Int)<1):Np.bP s.data.toList=false:=by
 have:¬ 1<=s.size:=by omega
 simp[Np.bP,this]
theorem VK(s:ByteArray)(h:12<(s.size:Int)):Np.bP s.data.toList=false:=by
 have:¬ s.size<=12:=by omega
 simp[Np.bP,this]
theorem VL(s:ByteArray)(h0:0<s.size)(h:(s[0].toNat:Int)=45):Np.bP s.data.toList=false:=by
 have e:=no s[0] 45 (by decide);rw[uQ (by simpa using h)] at e;have e2:s[0]=(45:UInt8):=by simpa using e
 simp[Np.bP,yI s h0,e2]
theorem VM(s:ByteArray)(h0:s.size - 1<s.size)(h:(s[s.size - 1].toNat:Int)=45):Np.bP s.data.toList=false:=by
 have e:=no s[s.size - 1] 45 (by decide);rw[uQ (by simpa using h)] at e;have e2:s[s.size - 1]=(45:UInt8):=by simpa using e
 simp[Np.bP,CJ s h0,e2]
theorem VO(s:ByteArray)(k:Nat)(hk:k<s.size)(h:Np.lG s[k]=false):Np.bP s.data.toList=false:=by
 have:s.data.toList.all Np.lG=false:=by
  rw[List.all_eq_false];exact⟨s[k],by rw[<-cQ.1 (uN s k hk) |>.2];exact List.getElem_mem _,by simp[h]⟩
 simp[Np.bP,this]
theorem VP(s:ByteArray)(h1:1<=s.size)(h2:s.size<=12)(h3:¬ (s[0].toNat:Int)=45)(h4:¬ (s[s.size - 1].toNat:Int)=45)(h5:s.data.toList.all Np.lG=true):Np.bP s.data.toList=true:=by
 have e:=no s[0] 45 (by decide);have e':=no s[s.size - 1] 45 (by decide);rw[tQ (by simpa using h3)] at e;rw[tQ (by simpa using h4)] at e';have e2:¬ s[0]=(45:UInt8):=by simpa using e
 have e3:¬ s[s.size - 1]=(45:UInt8):=by simpa using e'
 simp[Np.bP,CJ s (by omega),yI s (by omega),e2,e3,h5,h1,h2]
theorem EW(s:ByteArray)(k:Nat)(h:k<s.size)(p:UInt8->Bool)(h1:(s.data.toList.take k).all p=true)(h2:p s[k]=true):(s.data.toList.take (k+1)).all p=true:=by
 rw[Hj s k h,List.all_append,h1];simp[h2]
theorem VQ(s:ByteArray)(hs:s.size<=140737488355328)(w:World) :
 Calls prog 245 #[.string s] w (aeY w (.bool (Np.bP s.data.toList))):=by
 go_enter func245,ntmps245;go_wp2
 ·go_ret;exact⟨ae (VJ s ‹_›).symm,rfl⟩
 ·go_ret;exact⟨ae (VK s ‹_›).symm,rfl⟩
 ·go_ret;exact⟨ae (VL s ‹_› ‹_›).symm,rfl⟩
 ·have h:((s[s.size - 1].toNat:Int) == 45)=true:=by assumption
  go_ret;exact⟨ae (VM s (by omega) (by simpa using h)).symm,rfl⟩
 ·have h1:1<=(s.size:Int):=by assumption
  have h2:(s.size:Int)<=12:=by assumption
  have h3:¬ (s[0].toNat:Int)=45:=by assumption
  have h4:((s[s.size - 1].toNat:Int) == 45)=false:=by assumption
  have H4:=jq h4;clear h4;have H3:=jq h3;go_loop [28] (λi=>∃ k:Nat,k<=s.size/\i = .int .i64 k/\(s.data.toList.take k).all Np.lG=true) (λi=>s.size - (intOf i).toNat)
  case atStart=>exact⟨0,jQ _,rfl,rfl⟩
  case round=>
   obtain⟨k,hk,rfl,ha⟩:=hrel;have HA:=jq ha;clear ha;by_cases aa:k<s.size
   ·have hb:=wk s[k];go_wp2
    all_goals first
     | (have hne:((s[k].toNat:Int) != 45)=true:=by assumption
        have ze:=bne_iff_ne.1 hne;go_ret;exact⟨ae (VO s k aa (by rw[MA];exact acJ)).symm,rfl⟩)
     | (have hl:Np.lG s[k]=true:=by
         rw[MA];refine uQ ?_
         first
          | omega
          | (have hne:((s[k].toNat:Int) != 45)=false:=by assumption
             have ze:(s[k].toNat:Int)=45:=by simpa using hne
             omega)
        go_round
        case rel=>exact⟨k+1,by omega,by go_num,EW s k aa _ HA.out hl⟩
        case measure=>simp[intOf] <;> omega)
   ·go_wp2;go_ret;exact⟨ae (VP s (by omega) (by omega) H3.out (by simpa using H4.out) (by have:=HA.out;rwa [Dg s k (by omega)] at this)).symm,rfl⟩
theorem Zr(c:Int)(h0:0<=c)(h1:c<=255)(x:UInt8):x=UInt8.ofNat c.toNat↔(x.toNat:Int)=c:=by
 have h:=no x c.toNat (by omega);rw[Bool.eq_iff_iff] at h;simp only[beq_iff_eq,Qa] at h;rw[h];omega
theorem Wf(s:ByteArray)(c:UInt8)(h:c∉s.data.toList.drop 0):Np.EQ s.data.toList c (-1):=.inl ⟨rfl,by simpa using h⟩
theorem Wg(s:ByteArray)(c:UInt8)(k:Nat)(hk:k<s.size)(h:c∉s.data.toList.drop (k+1))(hc:s[k]=c):Np.EQ s.data.toList c (k:Int):=by
 refine .inr ⟨s.data.toList.take k,s.data.toList.drop (k+1),?_,h,?_⟩
 ·subst hc;rw[show s[k]=s.data.toList[k]'(by rw[aX];exact hk) from rfl,<-sQ,List.take_append_drop]
 ·simp;have:=aX s;simp at this;omega
theorem R6(s:ByteArray)(c:UInt8)(k:Nat)(hk:k<s.size)(h:c∉s.data.toList.drop (k+1))(hc:¬ s[k]=c):c∉s.data.toList.drop k:=by
 rw[sQ (by rw[aX];exact hk)];intro hm;rcases List.mem_cons.1 hm with e | e
 ·exact hc e.symm
 ·exact h e
def Ib(s:ByteArray)(c:UInt8)(w:World)(e:Ending)(w':World):Prop:=∃ r:Int,Np.EQ s.data.toList c r/\e = .returned (.int .i64 r)/\w=w'
theorem Wh(s:ByteArray)(hs:s.size<=140737488355328)(c:Int)(h0:0<=c)(h1:c<=255)(w:World) :
 Calls prog 345 #[.string s,.int .u8 c] w (Ib s (UInt8.ofNat c.toNat) w):=by
 go_enter func345,ntmps345;go_wp2;go_loop [5] (λi=>∃ k:Int,-1<=k/\k<s.size/\i = .int .i64 k/\Hid (UInt8.ofNat c.toNat∉s.data.toList.drop (k+1).toNat)) (λi=>(intOf i+1).toNat)
 case atStart=>exact⟨_,by omega,by omega,rfl,jq (by rw[List.drop_eq_nil_of_le (by rw[aX];omega)];simp)⟩
 case round=>
  obtain⟨k,bL,bY,rfl,H⟩:=hrel;by_cases aa:0<=k
  ·obtain⟨j,rfl⟩:=Int.eq_ofNat_of_zero_le aa;have hj:j<s.size:=by omega
   have hb:=wk s[j];have hd:=Zr c h0 h1 s[j];have HD:=jq hd;clear hd;go_wp2
   all_goals first
    | (have he:((s[j].toNat:Int) == c)=true:=by assumption
       go_ret;exact⟨j,Wg s _ j hj (by simpa using H.out) (HD.out.2 (by simpa using he)),rfl,rfl⟩)
    | (have he:((s[j].toNat:Int) == c)=false:=by assumption
       go_round
       case rel=>exact⟨(j:Int) - 1,by omega,by omega,rfl,jq (by have:=R6 s _ j hj (by simpa using H.out) (λe=>by have:=HD.out.1 e;simp[this] at he);simpa using this)⟩
       case measure=>simp[intOf] <;> omega)
  ·obtain rfl:k = -1:=by omega
   go_wp2;go_ret;exact⟨-1,Wf s _ (by simpa using H.out),rfl,rfl⟩
theorem GO(s:ByteArray)(hs:s.size<=140737488355328)(c:Int)(h0:0<=c)(h1:c<=255)(w:World) :
 Calls prog 298 #[.string s,.int .u8 c] w (Ib s (UInt8.ofNat c.toNat) w):=by
 go_enter func298,ntmps298;go_wp2_with (go_at_call 345;refine (Wh _ hs _ h0 h1 _).mono ?_;rintro e w' ⟨r,hr,rfl,rfl⟩);go_ret;exact⟨r,hr,rfl,rfl⟩
end
namespace D
open Go.RowKit
structure Below(B:Nat)(w w':World):Prop where
 os:w'.os=w.os
 tape:w'.tape=w.tape
 output:w'.output=w.output
 size:w.heap.size<=w'.heap.size
 block:∀ k,k<B->w'.heap[k]?=w.heap[k]?
 drawn:w.drawn<=w'.drawn
theorem Below.low{B:Nat}{w w':World}(h:Below B w w'):Go.RowKit.Below B w w':=⟨h.os,h.tape,h.output,h.size,h.block⟩
theorem vQ(B:Nat)(w:World):Below B w w:=⟨rfl,rfl,rfl,bQ _,λ_ _=>rfl,bQ _⟩
theorem Below.trans{B:Nat}{a b c:World}(h:Below B a b)(k:Below B b c):Below B a c:=
 ⟨k.os.trans h.os,k.tape.trans h.tape,k.output.trans h.output,yQ h.size k.size,λi hi=>(k.block i hi).trans (h.block i hi),yQ h.drawn k.drawn⟩
theorem Below.mono{B B':Nat}{w w':World}(h:Below B w w')(hB:B'<=B):Below B' w w':=⟨h.os,h.tape,h.output,h.size,λk hk=>h.block k (lQ hk hB),h.drawn⟩
theorem Below.drew{B:Nat}{a w:World}(h:Below B a w):Below B a w.drew:=⟨h.os,h.tape,h.output,h.size,h.block,Nat.le_succ_of_le h.drawn⟩
theorem Below.heap_alloc(w:World)(o:Obj)(k:Nat)(h:k<w.heap.size):(w.alloc o).heap[k]?=w.heap[k]?:=Go.RowKit.Below.heap_alloc w o k h
theorem wQ(w:World)(a:Addr)(u:Value)(k:Nat)(h:k≠a.block):(w.setCell a u).heap[k]?=w.heap[k]?:=Go.RowKit.Below.heap_setCell w a u k h
theorem Below.alloc{B:Nat}{a w:World}(h:Below B a w)(hB:B<=w.heap.size)(o:Obj):Below B a (w.alloc o):=
 h.trans ⟨rfl,rfl,rfl,by simp,λk hk=>Below.heap_alloc _ _ _ (by omega),bQ _⟩
theorem Below.setCell{B:Nat}{a w:World}(h:Below B a w){p:Addr}(hp:B<=p.block)(u:Value):Below B a (w.setCell p u):=
 h.trans ⟨rfl,rfl,rfl,by simp[World.setCell],λk hk=>wQ _ _ _ _ (by omega),bQ _⟩
theorem Below.cell{B:Nat}{w w':World}(h:Below B w w'){p:Addr}(hp:p.block<B):w'.cell? p=w.cell? p:=h.low.cell hp
theorem Below.frozen{B:Nat}{w w':World}(h:Below B w w'){p:Addr}(hp:p.block<B):w'.frozen? p=w.frozen? p:=h.low.frozen hp
structure ItStep(B:Nat)(S:Nat->Prop)(W W':World):Prop where
 os:W'.os=W.os
 tape:W'.tape=W.tape
 output:W'.output=W.output
 size:W.heap.size<=W'.heap.size
 keep:∀ k,k<W.heap.size->(k<B\/S k)->W'.heap[k]?=W.heap[k]?
 drawn:W.drawn<=W'.drawn
structure RdStep(S:Nat->Prop)(W W':World):Prop where
 os:W'.os=W.os
 tape:W'.tape=W.tape
 output:W'.output=W.output
 size:W.heap.size<=W'.heap.size
 keep:∀ k,k<W.heap.size->¬ S k->W'.heap[k]?=W.heap[k]?
 drawn:W.drawn<=W'.drawn
theorem ItStep.refl(B:Nat)(S:Nat->Prop)(W:World):ItStep B S W W:=⟨rfl,rfl,rfl,bQ _,λ_ _ _=>rfl,bQ _⟩
theorem RdStep.refl(S:Nat->Prop)(W:World):RdStep S W W:=⟨rfl,rfl,rfl,bQ _,λ_ _ _=>rfl,bQ _⟩
theorem ItStep.trans{B:Nat}{S:Nat->Prop}{A W C:World}(h:ItStep B S A W)(k:ItStep B S W C):ItStep B S A C:=
 ⟨k.os.trans h.os,k.tape.trans h.tape,k.output.trans h.output,yQ h.size k.size,λi hi hs=>(k.keep i (lQ hi h.size) hs).trans (h.keep i hi hs),yQ h.drawn k.drawn⟩
theorem RdStep.trans{S S':Nat->Prop}{A W C:World}(h:RdStep S A W)(k:RdStep S' W C)(hS:∀ i,S' i->S i\/A.heap.size<=i):RdStep S A C:=
 ⟨k.os.trans h.os,k.tape.trans h.tape,k.output.trans h.output,yQ h.size k.size,λi hi hs=>
  (k.keep i (lQ hi h.size) (λe=>by rcases hS i e with e | e;exact hs e;omega)).trans (h.keep i hi hs),yQ h.drawn k.drawn⟩
theorem RdStep.mono{S S':Nat->Prop}{A W:World}(h:RdStep S A W)(hS:∀ i,S i->S' i):RdStep S' A W:=
 ⟨h.os,h.tape,h.output,h.size,λi hi hs=>h.keep i hi (λe=>hs (hS i e)),h.drawn⟩
theorem ItStep.of_below{B:Nat}{S:Nat->Prop}{A W:World}(h:Below A.heap.size A W):ItStep B S A W:=
 ⟨h.os,h.tape,h.output,h.size,λk hk _=>h.block k hk,h.drawn⟩
theorem RdStep.of_below{S:Nat->Prop}{A W:World}(h:Below A.heap.size A W):RdStep S A W:=
 ⟨h.os,h.tape,h.output,h.size,λk hk _=>h.block k hk,h.drawn⟩
theorem RdStep.below{S:Nat->Prop}{A W:World}{n:Nat}(h:RdStep S A W)(hn:n<=A.heap.size)(hS:∀ k,S k->n<=k):Below n A W:=
 ⟨h.os,h.tape,h.output,h.size,λk hk=>h.keep k (by omega) (λe=>by have:=hS k e;omega),h.drawn⟩
theorem RdStep.setCell{S:Nat->Prop}{A W:World}(h:RdStep S A W){p:Addr}(hp:S p.block\/A.heap.size<=p.block)(u:Value):RdStep S A (W.setCell p u):=
 ⟨h.os,h.tape,h.output,by simpa [World.setCell] using h.size,λk hk hs=>(wQ _ _ _ _ (by rintro rfl;rcases hp with hp | hp;exact hs hp;omega)).trans (h.keep k hk hs),h.drawn⟩
theorem RdStep.alloc{S:Nat->Prop}{A W:World}(h:RdStep S A W)(o:Obj):RdStep S A (W.alloc o):=
 ⟨h.os,h.tape,h.output,yQ h.size (by simp),λk hk hs=>(Below.heap_alloc _ _ _ (lQ hk h.size)).trans (h.keep k hk hs),h.drawn⟩
theorem RdStep.drew{S:Nat->Prop}{A W:World}(h:RdStep S A W):RdStep S A W.drew:=⟨h.os,h.tape,h.output,h.size,h.keep,Nat.le_succ_of_le h.drawn⟩
theorem RdStep.then_below{S:Nat->Prop}{A W C:World}(h:RdStep S A W)(k:Below W.heap.size W C):RdStep S A C:=
 ⟨k.os.trans h.os,k.tape.trans h.tape,k.output.trans h.output,yQ h.size k.size,λi hi hs=>(k.block i (lQ hi h.size)).trans (h.keep i hi hs),yQ h.drawn k.drawn⟩
def eq{β:Type}(B:Nat)(J:β->(Nat->Prop)->World->Prop):Prop:=∀ s S W W',J s S W->ItStep B S W W'->J s S W'
def Bu{α:Type}(J Jx:List α->(Nat->Prop)->World->Prop)(pre:List α)(x:α)(S:Nat->Prop)(W:World)(e:Ending)(W':World):Prop:=
 ∃ S':Nat->Prop,RdStep S W W'/\(∀ k,S' k->S k\/W.heap.size<=k)/\(∀ k,S' k->k<W'.heap.size)/\
   ((e = .returned (.bool true)/\J (pre ++ [x]) S' W')\/(e = .returned (.bool false)/\Jx (pre ++ [x]) S' W'))
def qR{α:Type}(P:Program)(gf:FuncId)(mk:Value->Array Value)(encs:α->Array Value)(xs:List α)(n₀:Nat)(w:World):Prop:=
 ∀ (l:Nat) (J Jx:List α->(Nat->Prop)->World->Prop) (S:Nat->Prop) (W:World),Below n₀ w W->
   eq W.heap.size J->eq W.heap.size Jx->
   (∀ pre x S1 W1,pre ++ [x] <+: xs->J pre S1 W1->(∀ k,S1 k->k<W1.heap.size)->W.heap.size<=W1.heap.size->
     YieldAt Fence.wide 0 P l (encs x) W1 (Bu J Jx pre x S1 W1))->
   (∀ k,S k->n₀<=k)->(∀ k,S k->k<W.heap.size)->J [] S W->
   CallsIn Fence.wide 0 P gf (mk (.func (.yield l) #[] #[])) W λe W'=>(∃ v,e = .returned v)/\
    ((∃ S',J xs S' W'/\(∀ k,S' k->S k\/W.heap.size<=k))\/(∃ pre S',pre <+: xs/\Jx pre S' W'/\(∀ k,S' k->S k\/W.heap.size<=k)))
def lV{α:Type}(I:List α->(Nat->Prop)->World->Prop)(Ix:Code->List α->(Nat->Prop)->World->Prop)(xs:List α)(S:Nat->Prop)(W:World):Exit->Act->World->Prop
 | .normal,_,W'=>∃ S',RdStep S W W'/\(∀ k,S' k->S k\/W.heap.size<=k)/\(∀ k,S' k->k<W'.heap.size)/\I xs S' W'
 | .ret,_,W'=>∃ S',RdStep S W W'/\(∀ k,S' k->S k\/W.heap.size<=k)/\(∀ k,S' k->k<W'.heap.size)/\Ix .ret xs S' W'
 | .exit id,_,W'=>∃ S',RdStep S W W'/\(∀ k,S' k->S k\/W.heap.size<=k)/\(∀ k,S' k->k<W'.heap.size)/\Ix (.exit id) xs S' W'
 | _,_,_=>False
theorem iy{B:Nat}{S:Nat->Prop}{W:World}{l:Nat}(o:Obj)(hl:B<=l)(hS:¬ S l):ItStep B S W (W.putObj l o):=
 ⟨rfl,rfl,rfl,by simp,λk _ hk=>zQ (by rintro rfl;rcases hk with hk | hk;omega;exact hS hk),bQ _⟩
theorem qy{B:Nat}{S:Nat->Prop}{W:World}(o:Obj):ItStep B S W (W.alloc o):=
 ⟨rfl,rfl,rfl,by simp,λk hk _=>Below.heap_alloc _ _ _ hk,bQ _⟩
theorem ItStep.weaken{B B':Nat}{S S':Nat->Prop}{W W':World}(h:ItStep B S W W')(hB:B'<=B)(hS:∀ k,S' k->S k):ItStep B' S' W W':=
 ⟨h.os,h.tape,h.output,h.size,λk hk hs=>h.keep k hk (hs.imp (λe=>by omega) (hS k)),h.drawn⟩
theorem Hy{α:Type}{P:Program}{g:Operand}{ps:Array Tmp}{assign body:Code}{Q:Exit->Act->World->Prop}{a:Act}{w:World}
 {gf:FuncId} {first captured:Array Value} (hg:a.eval g = .func (.func gf) first captured) (eg:∀ args w,(callFunc gf args).run P w = .ok (.enter gf args) w)
 {mk:Value->Array Value} {encs:α->Array Value} {xs:List α} {n₀:Nat} {w0:World} (fu:∀ y,mk y=first ++ #[y]++captured)
 (hit:qR P gf mk encs xs n₀ w0) (br:Below n₀ w0 w) (jn:n₀<=w.heap.size) (eC:∀ x,(encs x).size=ps.size)
 (I:List α->(Nat->Prop)->World->Prop) (Ix:Code->List α->(Nat->Prop)->World->Prop) (A:List α->α->(Nat->Prop)->Act->World->Prop)
 (hI:eq w.heap.size I) (gR:∀ c,eq w.heap.size (Ix c)) (hA:∀ pre x S a' W W',A pre x S a' W->ItStep w.heap.size S W W'->A pre x S a' W')
 (S0:Nat->Prop) (nK:∀ k,S0 k->n₀<=k) (jk:∀ k,S0 k->k<w.heap.size) (h0:I [] S0 w)
 (yp:∀ (l:Nat) (pre:List α) (x:α) (S:Nat->Prop) (W:World),pre ++ [x] <+: xs->I pre S W->(∀ k,S k->k<W.heap.size)->
   assign.wpIn (Fence.wide.inRound l) 0 P (Exit.then (λa₁ W₁=>∃ S',RdStep S W W₁/\(∀ k,S' k->S k\/W.heap.size<=k)/\(∀ k,S' k->k<W₁.heap.size)/\A pre x S' a₁ W₁) (λ_ _ _=>False))
    { tmps:=(ps.zip (encs x)).foldl (λt (p,v)=>t.setIfInBounds p v) a.tmps,defers:=[] } W)
 (yx:∀ (l:Nat) (pre:List α) (x:α) (S:Nat->Prop) (a₁:Act) (W:World),pre ++ [x] <+: xs->A pre x S a₁ W->(∀ k,S k->k<W.heap.size)->
   body.wpIn (Fence.wide.inRound l) 0 P (lV I Ix (pre ++ [x]) S W) a₁ W)
 (l7:∀ (D:Nat) (S:Nat->Prop) (W:World),w.heap.size<=D->¬ S D->(∀ k,S k->S0 k\/w.heap.size<=k)->I xs S W->W.heap[D]?=some (.deferred (some []))->
   Q .normal { a with defers:={ target:=.collected D,args:=#[] } :: a.defers } W)
 (kE:∀ (D:Nat) (c:Code) (pre:List α) (S:Nat->Prop) (W:World),w.heap.size<=D->¬ S D->(∀ k,S k->S0 k\/w.heap.size<=k)->pre <+: xs->Ix c pre S W->W.heap[D]?=some (.deferred (some []))->
   c.wpIn Fence.wide 0 P Q { a with defers:={ target:=.collected D,args:=#[] } :: a.defers } W) :
 (Code.rangeFunc g ps assign body).wpIn Fence.wide 0 P Q a w:=by
 refine wpIn_rangeFunc ?_;intro fn gT;show ∃ (l:Nat) (mark:List Deferred) (w₁:World) (d:Deferred) (w₁':World) (f:FuncId) (args:Array Value) (w₂:World),(Instr.enterLoop fn a.tmps ps assign body none).run P w = .ok (l,mark) w₁/\_;obtain⟨rec,eh⟩:∃ rec:LoopState->Option Code->Loop,rec=λst pe=>{ state:=st,pending:=pe,fn,tmps:=a.tmps,params:=ps,assign,body,defers:=w.heap.size }:=⟨_,rfl⟩;obtain⟨W1,am⟩:=abK ((w.alloc (.deferred (some []))).alloc (.loop (rec .ready none)));have al:W1.heap.size=w.heap.size+2:=by rw[<-am];simp
 have lk:W1.heap[w.heap.size+1]?=some (.loop (rec .ready none)):=by
  rw[<-am];have:=World.alloc_heap_new (w.alloc (.deferred (some []))) (.loop (rec .ready none));rwa [World.size_alloc] at this
 have yc:W1.heap[w.heap.size]?=some (.deferred (some [])):=by
  rw[<-am];exact (Below.heap_alloc _ _ _ (by simp)).trans (World.alloc_heap_new w _)
 have nJ:I [] S0 W1:=by rw[<-am];exact hI _ _ _ _ (hI _ _ _ _ h0 (qy _)) (qy _)
 have an:Below n₀ w0 W1:=by
  rw[<-am];exact br.trans ((((vQ _ w).alloc (bQ _) _).alloc (by simp) _).mono jn)
 refine⟨w.heap.size+1,[{ target:=.collected w.heap.size,args:=#[] }],W1,{ target:=.fn (.func gf) captured,args:=first ++ #[.func (.yield (w.heap.size+1)) #[] #[]] },W1,gf,
  first ++ #[.func (.yield (w.heap.size+1)) #[] #[]]++captured,W1,?_,?_,?_,?_,λh=>by simp[Fence.wide] at h,?_⟩
 ·rw[<-am,eh];exact run_enterLoop_outer _ _ _ _ _
 ·simp only[resolve,hg];simp[go_sem]
 ·intro f' _;trivial
 ·simp[invoke,go_sem,eg]
 ·rw[<-fu];have key:=hit (w.heap.size+1)
   (λpre Si W=>∃ S:Nat->Prop,(∀ k,Si k↔S k\/k=w.heap.size+1)/\(¬ S w.heap.size)/\(¬ S (w.heap.size+1))/\(∀ k,S k->S0 k\/w.heap.size<=k)/\I pre S W/\W.heap[w.heap.size+1]?=some (.loop (rec .ready none))/\W.heap[w.heap.size]?=some (.deferred (some [])))
   (λpre Si W=>∃ (S:Nat->Prop) (c:Code),(∀ k,Si k↔S k\/k=w.heap.size+1)/\(¬ S w.heap.size)/\(¬ S (w.heap.size+1))/\(∀ k,S k->S0 k\/w.heap.size<=k)/\Ix c pre S W/\W.heap[w.heap.size+1]?=some (.loop (rec .done (some c)))/\W.heap[w.heap.size]?=some (.deferred (some [])))
   (λk=>S0 k\/k=w.heap.size+1) W1 an ?_ ?_ ?_ ?_ ?_ ?_
  ·refine key.mono ?_;rintro e W2 ⟨⟨v,rfl⟩,(⟨S',⟨S,cG,hD,hL,aM,hi,hl,hk⟩,_⟩ | ⟨pre,S',gD,⟨S,c,cG,hD,hL,aM,hi,hl,hk⟩,_⟩)⟩
   ·refine⟨none,_,by have:=run_endLoop (P:=P) hl (by rw[eh];simp);rw[eh] at this;exact this,?_⟩;exact l7 _ S _ (bQ _) hD aM (hI _ _ _ _ hi (iy _ (by omega) hL)) ((zQ (by omega)).trans hk)
   ·refine⟨some c,_,by have:=run_endLoop (P:=P) hl (by rw[eh];simp);rw[eh] at this;exact this,?_⟩;exact kE _ c pre S _ (bQ _) hD aM gD ((gR c) _ _ _ _ hi (iy _ (by omega) hL)) ((zQ (by omega)).trans hk)
  ·rintro pre Si A1 B1 ⟨S,cG,hD,hL,aM,hi,hl,hk⟩ av;have aa:w.heap.size+1<A1.heap.size:=(eQ.1 hl).1;exact⟨S,cG,hD,hL,aM,hI _ _ _ _ hi (av.weaken (by omega) (λk e=>(cG k).2 (.inl e))),(av.keep _ aa (.inl (by omega))).trans hl,(av.keep _ (by omega) (.inl (by omega))).trans hk⟩
  ·rintro pre Si A1 B1 ⟨S,c,cG,hD,hL,aM,hi,hl,hk⟩ av;have aa:w.heap.size+1<A1.heap.size:=(eQ.1 hl).1;exact⟨S,c,cG,hD,hL,aM,gR c _ _ _ _ hi (av.weaken (by omega) (λk e=>(cG k).2 (.inl e))),(av.keep _ aa (.inl (by omega))).trans hl,(av.keep _ (by omega) (.inl (by omega))).trans hk⟩
  ·
   rintro pre x Si W aU ⟨S,cG,hD,hL,aM,hi,hl,hk⟩ eW FB;have aa:w.heap.size+1<W.heap.size:=(eQ.1 hl).1;have yk:∀ k,S k->k<W.heap.size:=λk e=>eW k ((cG k).2 (.inl e));have hy:=run_yield (P:=P) (args:=encs x) hl (by rw[eh];exact eC x);rw[eh] at hy;refine⟨fn,_,assign,body,hy,roundIn_of_wpIn gT (wpIn_mono (yp _ pre x S W aU hi yk) ?_)⟩;intro e a1 Wa hq
   cases e with
   | normal=>
    obtain⟨S1,fe,bd,zu,ra⟩:=hq;have rq:¬ S1 w.heap.size:=λe=>by rcases bd _ e with e | e;exact hD e;omega
    have nT:¬ S1 (w.heap.size+1):=λe=>by rcases bd _ e with e | e;exact hL e;omega
    have mU:Wa.heap[w.heap.size+1]?=some (.loop (rec .ready none)):=(fe.keep _ aa hL).trans hl;have yW:Wa.heap[w.heap.size]?=some (.deferred (some [])):=(fe.keep _ (by omega) hD).trans hk;have rp:w.heap.size+1<Wa.heap.size:=(eQ.1 mU).1;refine⟨_,run_beginRound mU (by rw[eh]),?_⟩;have hb:=yx (w.heap.size+1) pre x S1 a1 (Wa.putObj (w.heap.size+1) (.loop { rec .ready none with state:=.busy })) aU (hA _ _ _ _ _ _ ra (iy _ (by omega) nT)) (λk e=>by simpa using zu k e);refine wpIn_mono hb ?_;have fin:∀ (jump:Option Code) (W3:World) (S3:Nat->Prop),RdStep S1 (Wa.putObj (w.heap.size+1) (.loop { rec .ready none with state:=.busy })) W3->(∀ k,S3 k->S1 k\/(Wa.putObj (w.heap.size+1) (.loop { rec .ready none with state:=.busy })).heap.size<=k)->(∀ k,S3 k->k<W3.heap.size)->
     (Instr.endRound (w.heap.size+1) jump).run P W3 = .ok (.bool jump.isNone) (W3.putObj (w.heap.size+1) (.loop (rec (if jump.isNone then .ready else .done) jump)))/\
     (W3.putObj (w.heap.size+1) (.loop (rec (if jump.isNone then .ready else .done) jump))).heap[w.heap.size+1]?=some (.loop (rec (if jump.isNone then .ready else .done) jump))/\
     (W3.putObj (w.heap.size+1) (.loop (rec (if jump.isNone then .ready else .done) jump))).heap[w.heap.size]?=some (.deferred (some []))/\
     ¬ S3 w.heap.size/\¬ S3 (w.heap.size+1)/\(∀ k,S3 k->S k\/W.heap.size<=k)/\
     RdStep Si W (W3.putObj (w.heap.size+1) (.loop (rec (if jump.isNone then .ready else .done) jump))):=λjump W3 S3 cC cR cD=>by
     have cY:(Wa.putObj (w.heap.size+1) (.loop { rec .ready none with state:=.busy })).heap[w.heap.size+1]?=some (.loop { rec .ready none with state:=.busy }):=World.putObj_heap_same rp;have ir:(Wa.putObj (w.heap.size+1) (.loop { rec .ready none with state:=.busy })).heap[w.heap.size]?=some (.deferred (some [])):=(zQ (by omega)).trans yW;have mb:=(cC.keep _ (by simpa using rp) nT).trans cY;have lz:=(cC.keep _ (by simp;omega) rq).trans ir;have dH:=(eQ.1 mb).1
     have:=run_endRound (P:=P) jump mb
     rw[eh] at this |-;have j9:=cC.size;have tP:=fe.size;simp only[World.putObj_size] at j9 cR;refine⟨this,World.putObj_heap_same dH,(zQ (by omega)).trans lz,λe=>?_,λe=>?_,λk e=>?_,?_⟩
     ·rcases cR _ e with e | e;exact rq e;omega
     ·rcases cR _ e with e | e;exact nT e;omega
     ·rcases cR _ e with e | e
      ·exact bd _ e
      ·right;omega
     ·refine⟨cC.os.trans fe.os,cC.tape.trans fe.tape,cC.output.trans fe.output,by simp;omega,λk hk' rr=>?_,yQ fe.drawn cC.drawn⟩;have lA:k≠w.heap.size+1:=λe=>rr ((cG k).2 (.inr e));have rt:¬ S k:=λe=>rr ((cG k).2 (.inl e));have zd:¬ S1 k:=λe=>by rcases bd _ e with e | e;exact rt e;omega
      exact (zQ lA).trans ((cC.keep k (by simp;omega) zd).trans ((zQ lA).trans (fe.keep k hk' rt)))
    have fin2:∀ (S3:Nat->Prop) (W3:World) (o:Obj),(∀ k,S3 k->k<W3.heap.size)->W.heap.size<=W3.heap.size->(∀ k,S3 k->S k\/W.heap.size<=k)->
     (∀ k,(S3 k\/k=w.heap.size+1)->Si k\/W.heap.size<=k)/\(∀ k,(S3 k\/k=w.heap.size+1)->k<(W3.putObj (w.heap.size+1) o).heap.size):=λS3 W3 o h1 h2 h3=>
     ⟨λk e=>by rcases e with e | e;exact (h3 k e).imp (λe'=>(cG k).2 (.inl e')) id;exact .inl ((cG k).2 (.inr e)),λk e=>by
      simp only[World.putObj_size];rcases e with e | e
      ·exact h1 k e
      ·omega⟩
    have sub3:∀ (S3:Nat->Prop),(∀ k,S3 k->S k\/W.heap.size<=k)->∀ k,S3 k->S0 k\/w.heap.size<=k:=λS3 h k e=>by
     rcases h k e with e | e
     ·exact aM k e
     ·right;omega
    rintro e a3 W3 hp
    cases e with
    | normal=>
     obtain⟨S3,cC,cR,cD,jl⟩:=hp;obtain⟨hr,jm,iT,iv,eZ,dm,aA⟩:=fin none W3 S3 cC cR cD;have al:W.heap.size<=W3.heap.size:=by simpa using aA.size
     refine⟨_,_,hr,λk=>S3 k\/k=w.heap.size+1,aA,(fin2 S3 W3 (.deferred none) cD al dm).1,(fin2 S3 W3 _ cD al dm).2,.inl ⟨rfl,S3,λ_=>Iff.rfl,iv,eZ,sub3 S3 dm,hI _ _ _ _ jl (iy _ (by omega) eZ),jm,iT⟩⟩
    | ret=>
     obtain⟨S3,cC,cR,cD,jl⟩:=hp;obtain⟨hr,jm,iT,iv,eZ,dm,aA⟩:=fin (some .ret) W3 S3 cC cR cD;have al:W.heap.size<=W3.heap.size:=by simpa using aA.size
     refine⟨_,_,hr,λk=>S3 k\/k=w.heap.size+1,aA,(fin2 S3 W3 (.deferred none) cD al dm).1,(fin2 S3 W3 _ cD al dm).2,.inr ⟨rfl,S3,.ret,λ_=>Iff.rfl,iv,eZ,sub3 S3 dm,gR _ _ _ _ _ jl (iy _ (by omega) eZ),jm,iT⟩⟩
    | exit id=>
     obtain⟨S3,cC,cR,cD,jl⟩:=hp;obtain⟨hr,jm,iT,iv,eZ,dm,aA⟩:=fin (some (.exit id)) W3 S3 cC cR cD;have al:W.heap.size<=W3.heap.size:=by simpa using aA.size
     refine⟨_,_,hr,λk=>S3 k\/k=w.heap.size+1,aA,(fin2 S3 W3 (.deferred none) cD al dm).1,(fin2 S3 W3 _ cD al dm).2,.inr ⟨rfl,S3,.exit id,λ_=>Iff.rfl,iv,eZ,sub3 S3 dm,gR _ _ _ _ _ jl (iy _ (by omega) eZ),jm,iT⟩⟩
    | goto t=>exact hp.elim
    | panic ch=>exact hp.elim
    | outgrown=>exact hp.elim
   | ret=>exact hq.elim
   | exit id=>exact hq.elim
   | goto t=>exact hq.elim
   | panic ch=>exact hq.elim
   | outgrown=>exact hq.elim
  ·rintro k (e | rfl)
   ·exact nK k e
   ·omega
  ·rintro k (e | rfl)
   ·have:=jk k e;omega
   ·omega
  ·exact⟨S0,λ_=>Iff.rfl,λe=>by have:=jk _ e;omega,λe=>by have:=jk _ e;omega,λ_ e=>.inl e,nJ,lk,yc⟩
theorem fL{B:Nat}{S:Nat->Prop}{W W':World}{b:Nat}{t:TypeId}{v:Value}(h:Boxed W b t v)(hs:ItStep B S W W')(hb:S b):Boxed W' b t v:=(hs.keep b h.lt (.inr hb)).trans h
theorem qV{n B:Nat}{S:Nat->Prop}{w W W':World}(h:Below n w W)(hs:ItStep B S W W')(hB:n<=B)(hn:n<=w.heap.size):Below n w W':=
 ⟨hs.os.trans h.os,hs.tape.trans h.tape,hs.output.trans h.output,yQ h.size hs.size,λk hk=>(hs.keep k (by have:=h.size;omega) (.inl (by omega))).trans (h.block k hk),yQ h.drawn hs.drawn⟩
theorem bB{n:Nat}{W W':World}{b:Nat}{t:TypeId}{v:Value}(h:Boxed W b t v)(hs:Below n W W')(hb:b<n):Boxed W' b t v:=(hs.block b hb).trans h
theorem bK{W:World}{b:Nat}{t:TypeId}{v:Value}(h:Boxed W b t v){p:Addr}(hp:b≠p.block)(u:Value):Boxed (W.setCell p u) b t v:=(wQ W p u b hp).trans h
theorem lY{P:Program}{fn:Func}{R:Ending->World->Prop}{tmps:Array Value}{w:World}{v:Value}(qm:(results fn tmps).run P w = .ok v w)(hR:R (.returned v) w) :
 bodyPostM Fence.wide 0 P fn R .ret { tmps:=tmps,defers:=[] } w:=⟨_,qm,hR⟩
theorem mN{P:Program}{fn:Func}{R:Ending->World->Prop}{tmps:Array Value}{W:World}{D:Nat}{v:Value}(hK:W.heap[D]?=some (.deferred (some [])))
 (qm:(results fn tmps).run P (W.putObj D (.deferred none)) = .ok v (W.putObj D (.deferred none))) (hR:R (.returned v) (W.putObj D (.deferred none))) :
 bodyPostM Fence.wide 0 P fn R .ret { tmps:=tmps,defers:=[{ target:=.collected D,args:=#[] }] } W:=
 ⟨by simp,.inl ⟨_,_,rfl,run_takeDeferred hK,_,qm,hR⟩⟩
theorem mK{n D:Nat}{w W:World}(h:Below n w W)(hD:n<=D)(o:Obj):Below n w (W.putObj D o):=
 ⟨h.os,h.tape,h.output,by simpa using h.size,λk hk=>(zQ (by omega)).trans (h.block k hk),h.drawn⟩
theorem nF{W:World}{b D:Nat}{t:TypeId}{v:Value}(h:Boxed W b t v)(hD:b≠D)(o:Obj):Boxed (W.putObj D o) b t v:=(zQ hD).trans h
theorem AA{α:Type}{P:Program}{g:Operand}{ps:Array Tmp}{assign body:Code}{Q:Exit->Act->World->Prop}{a:Act}{w:World}
 {gf:FuncId} {first captured:Array Value} (hg:a.eval g = .func (.func gf) first captured) (eg:∀ args w,(callFunc gf args).run P w = .ok (.enter gf args) w)
 {mk:Value->Array Value} {encs:α->Array Value} {xs:List α} {n₀:Nat} {w0:World} (fu:∀ y,mk y=first ++ #[y]++captured)
 (hit:qR P gf mk encs xs n₀ w0) (br:Below n₀ w0 w) (jn:n₀<=w.heap.size) (eC:∀ x,(encs x).size=ps.size)
 (I:List α->(Nat->Prop)->World->Prop) (Ix:Code->List α->(Nat->Prop)->World->Prop)
 (hI:eq w.heap.size I) (gR:∀ c,eq w.heap.size (Ix c))
 (S0:Nat->Prop) (nK:∀ k,S0 k->n₀<=k) (jk:∀ k,S0 k->k<w.heap.size) (h0:I [] S0 w)
 (zt:∀ (l0:Nat) (pre:List α) (x:α) (S:Nat->Prop) (W:World),pre ++ [x] <+: xs->I pre S W->(∀ k,S k->k<W.heap.size)->
   assign.wpIn (Fence.wide.inRound l0) 0 P (Exit.then (λa₁ W₁=>∃ S',RdStep S W W₁/\(∀ k,S' k->S k\/W.heap.size<=k)/\(∀ k,S' k->k<W₁.heap.size)/\
    ∀ l W₂,ItStep w.heap.size S' W₁ W₂->body.wpIn (Fence.wide.inRound l) 0 P (lV I Ix (pre ++ [x]) S' W₂) a₁ W₂) (λ_ _ _=>False))
    { tmps:=(ps.zip (encs x)).foldl (λt (p,v)=>t.setIfInBounds p v) a.tmps,defers:=[] } W)
 (l7:∀ (D:Nat) (S:Nat->Prop) (W:World),w.heap.size<=D->¬ S D->(∀ k,S k->S0 k\/w.heap.size<=k)->I xs S W->W.heap[D]?=some (.deferred (some []))->
   Q .normal { a with defers:={ target:=.collected D,args:=#[] } :: a.defers } W)
 (kE:∀ (D:Nat) (c:Code) (pre:List α) (S:Nat->Prop) (W:World),w.heap.size<=D->¬ S D->(∀ k,S k->S0 k\/w.heap.size<=k)->pre <+: xs->Ix c pre S W->W.heap[D]?=some (.deferred (some []))->
   c.wpIn Fence.wide 0 P Q { a with defers:={ target:=.collected D,args:=#[] } :: a.defers } W) :
 (Code.rangeFunc g ps assign body).wpIn Fence.wide 0 P Q a w:=
 Hy hg eg fu hit br jn eC I Ix (λpre x S a₁ W=>∀ l W₂,ItStep w.heap.size S W W₂->body.wpIn (Fence.wide.inRound l) 0 P (lV I Ix (pre ++ [x]) S W₂) a₁ W₂)
  hI gR (λ_ _ _ _ _ _ h hs l W₂ h2=>h l W₂ (hs.trans h2)) S0 nK jk h0 zt (λl _ _ _ _ W _ h _=>h l W (ItStep.refl _ _ _)) l7 kE
def bi(w:World):Type:={ x:World // Below w.heap.size w x }
def bi.w{w:World}(g:bi w):World:=g.1
theorem bi.below{w:World}(g:bi w):Below w.heap.size w g.w:=g.2
instance (w:World):Nonempty (bi w):=⟨⟨w,vQ _ _⟩⟩
theorem bi.cell{w:World}(g:bi w)(p:Addr)(h:p.block<w.heap.size):g.w.cell? p=w.cell? p:=g.2.cell h
theorem bi.frozen{w:World}(g:bi w)(p:Addr)(h:p.block<w.heap.size):g.w.frozen? p=w.frozen? p:=g.2.frozen h
theorem bi.size{w:World}(g:bi w):w.heap.size<=g.w.heap.size:=g.2.size
def wD(w:World)(w':World):Prop:=∃ g:bi w,w'=g.w
theorem wD.of{w w':World}(h:Below w.heap.size w w'):wD w w':=⟨⟨w',h⟩,rfl⟩
theorem Calls.grow_of{P:Program}{f:FuncId}{args:Array Value}{w:World}{g:bi w}{v:Value}
 (h:Calls P f args g.w λe w'=>e = .returned v/\Below g.w.heap.size g.w w'):Calls P f args g.w λe w''=>e = .returned v/\∃ g':bi w,w''=g'.w:=
 h.mono λ_ w' ⟨he,hm⟩=>⟨he,⟨w',g.2.trans (hm.mono g.2.size)⟩,rfl⟩
section
variable {P:Program}
theorem eH{id:Nat}{Q:Exit->Act->World->Prop}{a:Act}{w:World}{l:List Oper}(hm:P.follows .mixedOrders=true)(hB:Region.lexB .any l.toArray=true)
 (h:wpQuiet P l.toArray (λw'=>∃ g:bi w,w'=g.w) (λa'=>∀ w',(∃ g:bi w,w'=g.w)->Q .normal a' w') l a):(Code.region id l.toArray true).wp P Q a w:=
 wp_region_quiet (C:=λw'=>∃ g:bi w,w'=g.w) hm hB ⟨⟨_,(vQ w.heap.size w).drew⟩,rfl⟩ (by simpa using h)
end
theorem qT{W w1:World}(hb:Below W.heap.size W w1):(∀ b o,b<W.heap.size->w1.cell? ⟨b,o,none⟩=W.cell? ⟨b,o,none⟩)/\(∀ b o,b<W.heap.size->w1.frozen? ⟨b,o,none⟩=W.frozen? ⟨b,o,none⟩):=
 ⟨λb o h=>hb.cell (p:=⟨b,o,none⟩) h,λb o h=>hb.frozen (p:=⟨b,o,none⟩) h⟩
end D
namespace D
open Go.RowKit Go.Shelf
attribute [local go_sem] Oper.semAt_some
abbrev ay(l:List UInt8):Value:=.string ⟨l.toArray⟩
def He:Value->Nat
 | .string s=>s.size
 | _=>0
def Du(t:ByteArray)(J:List (List UInt8)->(Nat->Prop)->World->Prop)(S:Nat->Prop)(W:World)(v:Value)(wr:World):Prop:=
 ∃ (pre:List (List UInt8)) (r:ByteArray) (S1:Nat->Prop),v = .string r/\r.size<=140737488355328/\Np.back t.data.toList=pre++(Np.aT r.data.toList).reverse/\
   J pre S1 wr/\(∀ k,S1 k->k<wr.heap.size)/\W.heap.size<=wr.heap.size/\(∀ k,S1 k->S k\/W.heap.size<=k)
theorem Bz(t:ByteArray)(ht:t.size<=140737488355328)(n₀:Nat)(w:World) :
 qR prog 215 (λy=>#[.string t,y]) (λx:List UInt8=>#[ay x]) (Np.back t.data.toList) n₀ w:=by
 intro l J Jx S W hW hJ BX hY hS hS' h0;refine callsIn_of_wp func215 rfl trivial ?_ rfl;simp only[ntmps215,List.size_toArray,List.length_cons,List.length_nil,Nat.reduceAdd,Nat.reduceSub,Array.replicate_succ,Array.replicate_zero,List.push_toArray,List.append_toArray,List.nil_append,List.cons_append];gi_wp2_with fail
 ·have he:(t.toList == [46])=true:=by assumption
  have fT:t.data.toList = [46]:=by rw[<-dQ];simpa using he
  have hb:Np.back t.data.toList = []:=by simp[Np.back,fT]
  refine bodyPost_ret (results_none rfl _ _ _) rfl ?_;exact⟨⟨_,rfl⟩,.inl ⟨S,by rw[hb];exact h0,λk e=>.inl e⟩⟩
 ·have he:(t.toList == [46])=false:=by assumption
  have hne:¬ t.data.toList = [46]:=by rw[<-dQ];simpa using he
  have hb:Np.back t.data.toList=(Np.aT t.data.toList).reverse:=by simp[Np.back,hne]
  have HB:=jq hb;clear hb;gi_loopw [4] (λv wr=>Du t J S W v wr) (λv _=>He v)
  case atStart=>exact⟨[],t,S,rfl,ht,by simpa using HB.out,h0,hS',bQ _,λ_ e=>.inl e⟩
  case round=>
   obtain⟨pre,r,S1,rfl,hr,gD,hj,aa,al,aM⟩:=hrel;have HP:=jq gD;clear gD;gi_wp2_with fail;refine⟨trivial,rfl,?_⟩;refine (callsIn_wide.2 (GO _ hr _ (by decide) (by decide) _)).mono ?_;rintro e w' ⟨q,hq,rfl,rfl⟩;rcases hq with ⟨rfl,fw⟩ | ⟨a,b,fO,kx,rfl⟩
   ·have bd:Np.aT r.data.toList = [r.data.toList]:=Np.vX fw;have hx:pre ++ [r.data.toList] <+: Np.back t.data.toList:=by rw[HP.out,bd];exact List.prefix_refl _
    obtain⟨fn,tmps,assign,body,hy,hR⟩:=hY pre r.data.toList S1 wr hx hj aa al;have nY:Sem.run prog (Instr.yield l #[.string r]) wr = .ok (.round l fn tmps assign body) wr:=hy;clear hy;have HX:=jq hx;clear hx;have HS:=jq bd;clear bd fw;gi_wp2_with fail;refine⟨rfl,hR.mono ?_⟩;rintro e W3 ⟨S3,aA,cK,dH,(⟨rfl,fH⟩ | ⟨rfl,fI⟩)⟩
    all_goals
     gi_wp2_with fail;refine bodyPost_ret (results_none rfl _ _ _) rfl ?_
    ·refine⟨⟨_,rfl⟩,.inl ⟨S3,?_,λk e=>?_⟩⟩
     ·rw[HP.out,HS.out];exact fH
     ·rcases cK k e with e | e
      ·exact aM k e
      ·right;omega
    ·refine⟨⟨_,rfl⟩,.inr ⟨_,S3,HX.out,fI,λk e=>?_⟩⟩;rcases cK k e with e | e
     ·exact aM k e
     ·right;omega
   ·have kF:a.length+1+b.length=r.size:=by rw[<-aX,fO];simp;omega
    have bd:Np.aT r.data.toList=Np.aT a ++ [b]:=by rw[fO];exact (Np.Ak a b).trans (by rw[Np.vX kx])
    have hx:pre ++ [b] <+: Np.back t.data.toList:=by rw[HP.out,bd];simp
    have qs:(r.extract (a.length+1) r.size).data.toList=b:=by rw[BG,fO];simp
    have oO:(r.extract 0 a.length).data.toList=a:=by rw[BH,fO];simp
    have zw:(r.extract 0 a.length).size=a.length:=by rw[<-aX,oO]
    obtain⟨fn,tmps,assign,body,hy,hR⟩:=hY pre b S1 wr hx hj aa al;have nY:Sem.run prog (Instr.yield l #[.string (r.extract (a.length+1) r.size)]) wr = .ok (.round l fn tmps assign body) wr:=by
     have:ay b = .string (r.extract (a.length+1) r.size):=by show Value.string _=_;congr 1;exact jD (by rw[qs])
     simp only[this] at hy;exact hy
    clear hy;have HX:=jq hx;have HS:=jq bd;have HA:=jq oO;have sO:=jq zw;clear hx bd qs oO zw fO kx;have jW:a.length<=140737488355328:=by omega
    have KX:a.length+1<=r.size:=by omega
    have H2:=jq kF;clear kF;gi_wp2_with fail;refine⟨rfl,hR.mono ?_⟩;rintro e W3 ⟨S3,aA,cK,dH,(⟨rfl,fH⟩ | ⟨rfl,fI⟩)⟩
    ·have UU:=aA.size;gi_wp2_with fail;go_roundw
     case rel=>
      refine⟨pre ++ [b],r.extract 0 a.length,S3,rfl,by rw[sO.out];exact jW,?_,fH,dH,by omega,λk e=>?_⟩
      ·rw[HP.out,HS.out,HA.out];simp
      ·rcases cK k e with e | e
       ·exact aM k e
       ·right;omega
     case measure=>show (r.extract 0 a.length).size<r.size;rw[sO.out];omega
    ·gi_wp2_with fail;refine bodyPost_ret (results_none rfl _ _ _) rfl ?_;refine⟨⟨_,rfl⟩,.inr ⟨_,S3,HX.out,fI,λk e=>?_⟩⟩;rcases cK k e with e | e
     ·exact aM k e
     ·right;omega
end D
section
open Go.RowKit
structure ItStep(B:Nat)(S:Nat->Prop)(W W':World):Prop where
 os:W'.os=W.os
 tape:W'.tape=W.tape
 output:W'.output=W.output
 size:W.heap.size<=W'.heap.size
 keep:∀ k,k<W.heap.size->(k<B\/S k)->W'.heap[k]?=W.heap[k]?
structure RdStep(S:Nat->Prop)(W W':World):Prop where
 os:W'.os=W.os
 tape:W'.tape=W.tape
 output:W'.output=W.output
 size:W.heap.size<=W'.heap.size
 keep:∀ k,k<W.heap.size->¬ S k->W'.heap[k]?=W.heap[k]?
theorem ItStep.refl(B:Nat)(S:Nat->Prop)(W:World):ItStep B S W W:=⟨rfl,rfl,rfl,bQ _,λ_ _ _=>rfl⟩
theorem RdStep.refl(S:Nat->Prop)(W:World):RdStep S W W:=⟨rfl,rfl,rfl,bQ _,λ_ _ _=>rfl⟩
theorem ItStep.trans{B:Nat}{S:Nat->Prop}{A W C:World}(h:ItStep B S A W)(k:ItStep B S W C):ItStep B S A C:=
 ⟨k.os.trans h.os,k.tape.trans h.tape,k.output.trans h.output,yQ h.size k.size,λi hi hs=>(k.keep i (lQ hi h.size) hs).trans (h.keep i hi hs)⟩
theorem RdStep.trans{S S':Nat->Prop}{A W C:World}(h:RdStep S A W)(k:RdStep S' W C)(hS:∀ i,S' i->S i\/A.heap.size<=i):RdStep S A C:=
 ⟨k.os.trans h.os,k.tape.trans h.tape,k.output.trans h.output,yQ h.size k.size,λi hi hs=>
  (k.keep i (lQ hi h.size) (λe=>by rcases hS i e with e | e;exact hs e;omega)).trans (h.keep i hi hs)⟩
theorem RdStep.mono{S S':Nat->Prop}{A W:World}(h:RdStep S A W)(hS:∀ i,S i->S' i):RdStep S' A W:=
 ⟨h.os,h.tape,h.output,h.size,λi hi hs=>h.keep i hi (λe=>hs (hS i e))⟩
theorem ItStep.of_below{B:Nat}{S:Nat->Prop}{A W:World}(h:Below A.heap.size A W):ItStep B S A W:=
 ⟨h.os,h.tape,h.output,h.size,λk hk _=>h.block k hk⟩
theorem RdStep.of_below{S:Nat->Prop}{A W:World}(h:Below A.heap.size A W):RdStep S A W:=
 ⟨h.os,h.tape,h.output,h.size,λk hk _=>h.block k hk⟩
theorem RdStep.below{S:Nat->Prop}{A W:World}{n:Nat}(h:RdStep S A W)(hn:n<=A.heap.size)(hS:∀ k,S k->n<=k):Below n A W:=
 ⟨h.os,h.tape,h.output,h.size,λk hk=>h.keep k (by omega) (λe=>by have:=hS k e;omega)⟩
theorem RdStep.setCell{S:Nat->Prop}{A W:World}(h:RdStep S A W){p:Addr}(hp:S p.block\/A.heap.size<=p.block)(u:Value):RdStep S A (W.setCell p u):=
 ⟨h.os,h.tape,h.output,by simpa [World.setCell] using h.size,λk hk hs=>(wQ _ _ _ _ (by rintro rfl;rcases hp with hp | hp;exact hs hp;omega)).trans (h.keep k hk hs)⟩
theorem RdStep.alloc{S:Nat->Prop}{A W:World}(h:RdStep S A W)(o:Obj):RdStep S A (W.alloc o):=
 ⟨h.os,h.tape,h.output,yQ h.size (by simp),λk hk hs=>(Below.heap_alloc _ _ _ (lQ hk h.size)).trans (h.keep k hk hs)⟩
theorem RdStep.drew{S:Nat->Prop}{A W:World}(h:RdStep S A W):RdStep S A W.drew:=⟨h.os,h.tape,h.output,h.size,h.keep⟩
theorem RdStep.grown{S:Nat->Prop}{A W C:World}{row:Option Nat}(h:RdStep S A W)(hg:W.grownBy C row)(hr:∀ k,row=some k->S k\/A.heap.size<=k):RdStep S A C:=
 ⟨hg.os.trans h.os,hg.tape.trans h.tape,hg.output.trans h.output,yQ h.size hg.size,λk hk hs=>
  (hg.block k (lQ hk h.size) (λe=>by rcases hr k e.symm with e' | e';exact hs e';omega)).trans (h.keep k hk hs)⟩
theorem RdStep.then_below{S:Nat->Prop}{A W C:World}(h:RdStep S A W)(k:Below W.heap.size W C):RdStep S A C:=
 ⟨k.os.trans h.os,k.tape.trans h.tape,k.output.trans h.output,yQ h.size k.size,λi hi hs=>(k.block i (lQ hi h.size)).trans (h.keep i hi hs)⟩
def eq{β:Type}(B:Nat)(J:β->(Nat->Prop)->World->Prop):Prop:=∀ s S W W',J s S W->ItStep B S W W'->J s S W'
def Bu{α:Type}(J Jx:List α->(Nat->Prop)->World->Prop)(pre:List α)(x:α)(S:Nat->Prop)(W:World)(e:Ending)(W':World):Prop:=
 ∃ S':Nat->Prop,RdStep S W W'/\(∀ k,S' k->S k\/W.heap.size<=k)/\(∀ k,S' k->k<W'.heap.size)/\
   ((e = .returned (.bool true)/\J (pre ++ [x]) S' W')\/(e = .returned (.bool false)/\Jx (pre ++ [x]) S' W'))
def qR{α:Type}(P:Program)(gf:FuncId)(mk:Value->Array Value)(encs:α->Array Value)(xs:List α)(n₀:Nat)(w:World):Prop:=
 ∀ (l:Nat) (J Jx:List α->(Nat->Prop)->World->Prop) (S:Nat->Prop) (W:World),Below n₀ w W->
   eq W.heap.size J->eq W.heap.size Jx->
   (∀ pre x S1 W1,pre ++ [x] <+: xs->J pre S1 W1->(∀ k,S1 k->k<W1.heap.size)->W.heap.size<=W1.heap.size->
     YieldAt Fence.wide 0 P l (encs x) W1 (Bu J Jx pre x S1 W1))->
   (∀ k,S k->n₀<=k)->(∀ k,S k->k<W.heap.size)->J [] S W->
   CallsIn Fence.wide 0 P gf (mk (.func (.yield l) #[] #[])) W λe W'=>(∃ v,e = .returned v)/\
    ((∃ S',J xs S' W'/\(∀ k,S' k->S k\/W.heap.size<=k))\/(∃ pre S',pre <+: xs/\Jx pre S' W'/\(∀ k,S' k->S k\/W.heap.size<=k)))
def lV{α:Type}(I:List α->(Nat->Prop)->World->Prop)(Ix:Code->List α->(Nat->Prop)->World->Prop)(xs:List α)(S:Nat->Prop)(W:World):Exit->Act->World->Prop
 | .normal,_,W'=>∃ S',RdStep S W W'/\(∀ k,S' k->S k\/W.heap.size<=k)/\(∀ k,S' k->k<W'.heap.size)/\I xs S' W'
 | .ret,_,W'=>∃ S',RdStep S W W'/\(∀ k,S' k->S k\/W.heap.size<=k)/\(∀ k,S' k->k<W'.heap.size)/\Ix .ret xs S' W'
 | .exit id,_,W'=>∃ S',RdStep S W W'/\(∀ k,S' k->S k\/W.heap.size<=k)/\(∀ k,S' k->k<W'.heap.size)/\Ix (.exit id) xs S' W'
 | _,_,_=>False
theorem iy{B:Nat}{S:Nat->Prop}{W:World}{l:Nat}(o:Obj)(hl:B<=l)(hS:¬ S l):ItStep B S W (W.putObj l o):=
 ⟨rfl,rfl,rfl,by simp,λk _ hk=>zQ (by rintro rfl;rcases hk with hk | hk;omega;exact hS hk)⟩
theorem qy{B:Nat}{S:Nat->Prop}{W:World}(o:Obj):ItStep B S W (W.alloc o):=
 ⟨rfl,rfl,rfl,by simp,λk hk _=>Below.heap_alloc _ _ _ hk⟩
theorem ItStep.weaken{B B':Nat}{S S':Nat->Prop}{W W':World}(h:ItStep B S W W')(hB:B'<=B)(hS:∀ k,S' k->S k):ItStep B' S' W W':=
 ⟨h.os,h.tape,h.output,h.size,λk hk hs=>h.keep k hk (hs.imp (λe=>by omega) (hS k))⟩
theorem Hy{α:Type}{P:Program}{g:Operand}{ps:Array Tmp}{assign body:Code}{Q:Exit->Act->World->Prop}{a:Act}{w:World}
 {gf:FuncId} {first captured:Array Value} (hg:a.eval g = .func (.func gf) first captured) (eg:∀ args w,(callFunc gf args).run P w = .ok (.enter gf args) w)
 {mk:Value->Array Value} {encs:α->Array Value} {xs:List α} {n₀:Nat} {w0:World} (fu:∀ y,mk y=first ++ #[y]++captured)
 (hit:qR P gf mk encs xs n₀ w0) (br:Below n₀ w0 w) (jn:n₀<=w.heap.size) (eC:∀ x,(encs x).size=ps.size)
 (I:List α->(Nat->Prop)->World->Prop) (Ix:Code->List α->(Nat->Prop)->World->Prop) (A:List α->α->(Nat->Prop)->Act->World->Prop)
 (hI:eq w.heap.size I) (gR:∀ c,eq w.heap.size (Ix c)) (hA:∀ pre x S a' W W',A pre x S a' W->ItStep w.heap.size S W W'->A pre x S a' W')
 (S0:Nat->Prop) (nK:∀ k,S0 k->n₀<=k) (jk:∀ k,S0 k->k<w.heap.size) (h0:I [] S0 w)
 (yp:∀ (l:Nat) (pre:List α) (x:α) (S:Nat->Prop) (W:World),pre ++ [x] <+: xs->I pre S W->(∀ k,S k->k<W.heap.size)->
   assign.wpIn (Fence.wide.inRound l) 0 P (Exit.then (λa₁ W₁=>∃ S',RdStep S W W₁/\(∀ k,S' k->S k\/W.heap.size<=k)/\(∀ k,S' k->k<W₁.heap.size)/\A pre x S' a₁ W₁) (λ_ _ _=>False))
    { tmps:=(ps.zip (encs x)).foldl (λt (p,v)=>t.setIfInBounds p v) a.tmps,defers:=[] } W)
 (yx:∀ (l:Nat) (pre:List α) (x:α) (S:Nat->Prop) (a₁:Act) (W:World),pre ++ [x] <+: xs->A pre x S a₁ W->(∀ k,S k->k<W.heap.size)->
   body.wpIn (Fence.wide.inRound l) 0 P (lV I Ix (pre ++ [x]) S W) a₁ W)
 (l7:∀ (D:Nat) (S:Nat->Prop) (W:World),w.heap.size<=D->¬ S D->(∀ k,S k->S0 k\/w.heap.size<=k)->I xs S W->W.heap[D]?=some (.deferred (some []))->
   Q .normal { a with defers:={ target:=.collected D,args:=#[] } :: a.defers } W)
 (kE:∀ (D:Nat) (c:Code) (pre:List α) (S:Nat->Prop) (W:World),w.heap.size<=D->¬ S D->(∀ k,S k->S0 k\/w.heap.size<=k)->pre <+: xs->Ix c pre S W->W.heap[D]?=some (.deferred (some []))->
   c.wpIn Fence.wide 0 P Q { a with defers:={ target:=.collected D,args:=#[] } :: a.defers } W) :
 (Code.rangeFunc g ps assign body).wpIn Fence.wide 0 P Q a w:=by
 refine wpIn_rangeFunc ?_;intro fn gT;show ∃ (l:Nat) (mark:List Deferred) (w₁:World) (d:Deferred) (w₁':World) (f:FuncId) (args:Array Value) (w₂:World),(Instr.enterLoop fn a.tmps ps assign body none).run P w = .ok (l,mark) w₁/\_;obtain⟨rec,eh⟩:∃ rec:LoopState->Option Code->Loop,rec=λst pe=>{ state:=st,pending:=pe,fn,tmps:=a.tmps,params:=ps,assign,body,defers:=w.heap.size }:=⟨_,rfl⟩;obtain⟨W1,am⟩:=abK ((w.alloc (.deferred (some []))).alloc (.loop (rec .ready none)));have al:W1.heap.size=w.heap.size+2:=by rw[<-am];simp
 have lk:W1.heap[w.heap.size+1]?=some (.loop (rec .ready none)):=by
  rw[<-am];have:=World.alloc_heap_new (w.alloc (.deferred (some []))) (.loop (rec .ready none));rwa [World.size_alloc] at this
 have yc:W1.heap[w.heap.size]?=some (.deferred (some [])):=by
  rw[<-am];exact (Below.heap_alloc _ _ _ (by simp)).trans (World.alloc_heap_new w _)
 have nJ:I [] S0 W1:=by rw[<-am];exact hI _ _ _ _ (hI _ _ _ _ h0 (qy _)) (qy _)
 have an:Below n₀ w0 W1:=by
  rw[<-am];exact br.trans ((((vQ _ w).alloc (bQ _) _).alloc (by simp) _).mono jn)
 refine⟨w.heap.size+1,[{ target:=.collected w.heap.size,args:=#[] }],W1,{ target:=.fn (.func gf) captured,args:=first ++ #[.func (.yield (w.heap.size+1)) #[] #[]] },W1,gf,
  first ++ #[.func (.yield (w.heap.size+1)) #[] #[]]++captured,W1,?_,?_,?_,?_,λh=>by simp[Fence.wide] at h,?_⟩
 ·rw[<-am,eh];exact run_enterLoop_outer _ _ _ _ _
 ·simp only[resolve,hg];simp[go_sem]
 ·intro f' _;trivial
 ·simp[invoke,go_sem,eg]
 ·rw[<-fu];have key:=hit (w.heap.size+1)
   (λpre Si W=>∃ S:Nat->Prop,(∀ k,Si k↔S k\/k=w.heap.size+1)/\(¬ S w.heap.size)/\(¬ S (w.heap.size+1))/\(∀ k,S k->S0 k\/w.heap.size<=k)/\I pre S W/\W.heap[w.heap.size+1]?=some (.loop (rec .ready none))/\W.heap[w.heap.size]?=some (.deferred (some [])))
   (λpre Si W=>∃ (S:Nat->Prop) (c:Code),(∀ k,Si k↔S k\/k=w.heap.size+1)/\(¬ S w.heap.size)/\(¬ S (w.heap.size+1))/\(∀ k,S k->S0 k\/w.heap.size<=k)/\Ix c pre S W/\W.heap[w.heap.size+1]?=some (.loop (rec .done (some c)))/\W.heap[w.heap.size]?=some (.deferred (some [])))
   (λk=>S0 k\/k=w.heap.size+1) W1 an ?_ ?_ ?_ ?_ ?_ ?_
  ·refine key.mono ?_;rintro e W2 ⟨⟨v,rfl⟩,(⟨S',⟨S,cG,hD,hL,aM,hi,hl,hk⟩,_⟩ | ⟨pre,S',gD,⟨S,c,cG,hD,hL,aM,hi,hl,hk⟩,_⟩)⟩
   ·refine⟨none,_,by have:=run_endLoop (P:=P) hl (by rw[eh];simp);rw[eh] at this;exact this,?_⟩;exact l7 _ S _ (bQ _) hD aM (hI _ _ _ _ hi (iy _ (by omega) hL)) ((zQ (by omega)).trans hk)
   ·refine⟨some c,_,by have:=run_endLoop (P:=P) hl (by rw[eh];simp);rw[eh] at this;exact this,?_⟩;exact kE _ c pre S _ (bQ _) hD aM gD ((gR c) _ _ _ _ hi (iy _ (by omega) hL)) ((zQ (by omega)).trans hk)
  ·rintro pre Si A1 B1 ⟨S,cG,hD,hL,aM,hi,hl,hk⟩ av;have aa:w.heap.size+1<A1.heap.size:=(eQ.1 hl).1;exact⟨S,cG,hD,hL,aM,hI _ _ _ _ hi (av.weaken (by omega) (λk e=>(cG k).2 (.inl e))),(av.keep _ aa (.inl (by omega))).trans hl,(av.keep _ (by omega) (.inl (by omega))).trans hk⟩
  ·rintro pre Si A1 B1 ⟨S,c,cG,hD,hL,aM,hi,hl,hk⟩ av;have aa:w.heap.size+1<A1.heap.size:=(eQ.1 hl).1;exact⟨S,c,cG,hD,hL,aM,gR c _ _ _ _ hi (av.weaken (by omega) (λk e=>(cG k).2 (.inl e))),(av.keep _ aa (.inl (by omega))).trans hl,(av.keep _ (by omega) (.inl (by omega))).trans hk⟩
  ·
   rintro pre x Si W aU ⟨S,cG,hD,hL,aM,hi,hl,hk⟩ eW FB;have aa:w.heap.size+1<W.heap.size:=(eQ.1 hl).1;have yk:∀ k,S k->k<W.heap.size:=λk e=>eW k ((cG k).2 (.inl e));have hy:=run_yield (P:=P) (args:=encs x) hl (by rw[eh];exact eC x);rw[eh] at hy;refine⟨fn,_,assign,body,hy,roundIn_of_wpIn gT (wpIn_mono (yp _ pre x S W aU hi yk) ?_)⟩;intro e a1 Wa hq
   cases e with
   | normal=>
    obtain⟨S1,fe,bd,zu,ra⟩:=hq;have rq:¬ S1 w.heap.size:=λe=>by rcases bd _ e with e | e;exact hD e;omega
    have nT:¬ S1 (w.heap.size+1):=λe=>by rcases bd _ e with e | e;exact hL e;omega
    have mU:Wa.heap[w.heap.size+1]?=some (.loop (rec .ready none)):=(fe.keep _ aa hL).trans hl;have yW:Wa.heap[w.heap.size]?=some (.deferred (some [])):=(fe.keep _ (by omega) hD).trans hk;have rp:w.heap.size+1<Wa.heap.size:=(eQ.1 mU).1;refine⟨_,run_beginRound mU (by rw[eh]),?_⟩;have hb:=yx (w.heap.size+1) pre x S1 a1 (Wa.putObj (w.heap.size+1) (.loop { rec .ready none with state:=.busy })) aU (hA _ _ _ _ _ _ ra (iy _ (by omega) nT)) (λk e=>by simpa using zu k e);refine wpIn_mono hb ?_;have fin:∀ (jump:Option Code) (W3:World) (S3:Nat->Prop),RdStep S1 (Wa.putObj (w.heap.size+1) (.loop { rec .ready none with state:=.busy })) W3->(∀ k,S3 k->S1 k\/(Wa.putObj (w.heap.size+1) (.loop { rec .ready none with state:=.busy })).heap.size<=k)->(∀ k,S3 k->k<W3.heap.size)->
     (Instr.endRound (w.heap.size+1) jump).run P W3 = .ok (.bool jump.isNone) (W3.putObj (w.heap.size+1) (.loop (rec (if jump.isNone then .ready else .done) jump)))/\
     (W3.putObj (w.heap.size+1) (.loop (rec (if jump.isNone then .ready else .done) jump))).heap[w.heap.size+1]?=some (.loop (rec (if jump.isNone then .ready else .done) jump))/\
     (W3.putObj (w.heap.size+1) (.loop (rec (if jump.isNone then .ready else .done) jump))).heap[w.heap.size]?=some (.deferred (some []))/\
     ¬ S3 w.heap.size/\¬ S3 (w.heap.size+1)/\(∀ k,S3 k->S k\/W.heap.size<=k)/\
     RdStep Si W (W3.putObj (w.heap.size+1) (.loop (rec (if jump.isNone then .ready else .done) jump))):=λjump W3 S3 cC cR cD=>by
     have cY:(Wa.putObj (w.heap.size+1) (.loop { rec .ready none with state:=.busy })).heap[w.heap.size+1]?=some (.loop { rec .ready none with state:=.busy }):=World.putObj_heap_same rp;have ir:(Wa.putObj (w.heap.size+1) (.loop { rec .ready none with state:=.busy })).heap[w.heap.size]?=some (.deferred (some [])):=(zQ (by omega)).trans yW;have mb:=(cC.keep _ (by simpa using rp) nT).trans cY;have lz:=(cC.keep _ (by simp;omega) rq).trans ir;have dH:=(eQ.1 mb).1
     have:=run_endRound (P:=P) jump mb
     rw[eh] at this |-;have j9:=cC.size;have tP:=fe.size;simp only[World.putObj_size] at j9 cR;refine⟨this,World.putObj_heap_same dH,(zQ (by omega)).trans lz,λe=>?_,λe=>?_,λk e=>?_,?_⟩
     ·rcases cR _ e with e | e;exact rq e;omega
     ·rcases cR _ e with e | e;exact nT e;omega
     ·rcases cR _ e with e | e
      ·exact bd _ e
      ·right;omega
     ·refine⟨cC.os.trans fe.os,cC.tape.trans fe.tape,cC.output.trans fe.output,by simp;omega,λk hk' rr=>?_⟩;have lA:k≠w.heap.size+1:=λe=>rr ((cG k).2 (.inr e));have rt:¬ S k:=λe=>rr ((cG k).2 (.inl e));have zd:¬ S1 k:=λe=>by rcases bd _ e with e | e;exact rt e;omega
      exact (zQ lA).trans ((cC.keep k (by simp;omega) zd).trans ((zQ lA).trans (fe.keep k hk' rt)))
    have fin2:∀ (S3:Nat->Prop) (W3:World) (o:Obj),(∀ k,S3 k->k<W3.heap.size)->W.heap.size<=W3.heap.size->(∀ k,S3 k->S k\/W.heap.size<=k)->
     (∀ k,(S3 k\/k=w.heap.size+1)->Si k\/W.heap.size<=k)/\(∀ k,(S3 k\/k=w.heap.size+1)->k<(W3.putObj (w.heap.size+1) o).heap.size):=λS3 W3 o h1 h2 h3=>
     ⟨λk e=>by rcases e with e | e;exact (h3 k e).imp (λe'=>(cG k).2 (.inl e')) id;exact .inl ((cG k).2 (.inr e)),λk e=>by
      simp only[World.putObj_size];rcases e with e | e
      ·exact h1 k e
      ·omega⟩
    have sub3:∀ (S3:Nat->Prop),(∀ k,S3 k->S k\/W.heap.size<=k)->∀ k,S3 k->S0 k\/w.heap.size<=k:=λS3 h k e=>by
     rcases h k e with e | e
     ·exact aM k e
     ·right;omega
    rintro e a3 W3 hp
    cases e with
    | normal=>
     obtain⟨S3,cC,cR,cD,jl⟩:=hp;obtain⟨hr,jm,iT,iv,eZ,dm,aA⟩:=fin none W3 S3 cC cR cD;have al:W.heap.size<=W3.heap.size:=by simpa using aA.size
     refine⟨_,_,hr,λk=>S3 k\/k=w.heap.size+1,aA,(fin2 S3 W3 (.deferred none) cD al dm).1,(fin2 S3 W3 _ cD al dm).2,.inl ⟨rfl,S3,λ_=>Iff.rfl,iv,eZ,sub3 S3 dm,hI _ _ _ _ jl (iy _ (by omega) eZ),jm,iT⟩⟩
    | ret=>
     obtain⟨S3,cC,cR,cD,jl⟩:=hp;obtain⟨hr,jm,iT,iv,eZ,dm,aA⟩:=fin (some .ret) W3 S3 cC cR cD;have al:W.heap.size<=W3.heap.size:=by simpa using aA.size
     refine⟨_,_,hr,λk=>S3 k\/k=w.heap.size+1,aA,(fin2 S3 W3 (.deferred none) cD al dm).1,(fin2 S3 W3 _ cD al dm).2,.inr ⟨rfl,S3,.ret,λ_=>Iff.rfl,iv,eZ,sub3 S3 dm,gR _ _ _ _ _ jl (iy _ (by omega) eZ),jm,iT⟩⟩
    | exit id=>
     obtain⟨S3,cC,cR,cD,jl⟩:=hp;obtain⟨hr,jm,iT,iv,eZ,dm,aA⟩:=fin (some (.exit id)) W3 S3 cC cR cD;have al:W.heap.size<=W3.heap.size:=by simpa using aA.size
     refine⟨_,_,hr,λk=>S3 k\/k=w.heap.size+1,aA,(fin2 S3 W3 (.deferred none) cD al dm).1,(fin2 S3 W3 _ cD al dm).2,.inr ⟨rfl,S3,.exit id,λ_=>Iff.rfl,iv,eZ,sub3 S3 dm,gR _ _ _ _ _ jl (iy _ (by omega) eZ),jm,iT⟩⟩
    | goto t=>exact hp.elim
    | panic ch=>exact hp.elim
    | outgrown=>exact hp.elim
   | ret=>exact hq.elim
   | exit id=>exact hq.elim
   | goto t=>exact hq.elim
   | panic ch=>exact hq.elim
   | outgrown=>exact hq.elim
  ·rintro k (e | rfl)
   ·exact nK k e
   ·omega
  ·rintro k (e | rfl)
   ·have:=jk k e;omega
   ·omega
  ·exact⟨S0,λ_=>Iff.rfl,λe=>by have:=jk _ e;omega,λe=>by have:=jk _ e;omega,λ_ e=>.inl e,nJ,lk,yc⟩
theorem fL{B:Nat}{S:Nat->Prop}{W W':World}{b:Nat}{t:TypeId}{v:Value}(h:Boxed W b t v)(hs:ItStep B S W W')(hb:S b):Boxed W' b t v:=(hs.keep b h.lt (.inr hb)).trans h
theorem qV{n B:Nat}{S:Nat->Prop}{w W W':World}(h:Below n w W)(hs:ItStep B S W W')(hB:n<=B)(hn:n<=w.heap.size):Below n w W':=
 ⟨hs.os.trans h.os,hs.tape.trans h.tape,hs.output.trans h.output,yQ h.size hs.size,λk hk=>(hs.keep k (by have:=h.size;omega) (.inl (by omega))).trans (h.block k hk)⟩
theorem bB{n:Nat}{W W':World}{b:Nat}{t:TypeId}{v:Value}(h:Boxed W b t v)(hs:Below n W W')(hb:b<n):Boxed W' b t v:=(hs.block b hb).trans h
theorem bK{W:World}{b:Nat}{t:TypeId}{v:Value}(h:Boxed W b t v){p:Addr}(hp:b≠p.block)(u:Value):Boxed (W.setCell p u) b t v:=(wQ W p u b hp).trans h
theorem lY{P:Program}{fn:Func}{R:Ending->World->Prop}{tmps:Array Value}{w:World}{v:Value}(qm:(results fn tmps).run P w = .ok v w)(hR:R (.returned v) w) :
 bodyPostM Fence.wide 0 P fn R .ret { tmps:=tmps,defers:=[] } w:=⟨_,qm,hR⟩
theorem mN{P:Program}{fn:Func}{R:Ending->World->Prop}{tmps:Array Value}{W:World}{D:Nat}{v:Value}(hK:W.heap[D]?=some (.deferred (some [])))
 (qm:(results fn tmps).run P (W.putObj D (.deferred none)) = .ok v (W.putObj D (.deferred none))) (hR:R (.returned v) (W.putObj D (.deferred none))) :
 bodyPostM Fence.wide 0 P fn R .ret { tmps:=tmps,defers:=[{ target:=.collected D,args:=#[] }] } W:=
 ⟨by simp,.inl ⟨_,_,rfl,run_takeDeferred hK,_,qm,hR⟩⟩
theorem mK{n D:Nat}{w W:World}(h:Below n w W)(hD:n<=D)(o:Obj):Below n w (W.putObj D o):=
 ⟨h.os,h.tape,h.output,by simpa using h.size,λk hk=>(zQ (by omega)).trans (h.block k hk)⟩
theorem nF{W:World}{b D:Nat}{t:TypeId}{v:Value}(h:Boxed W b t v)(hD:b≠D)(o:Obj):Boxed (W.putObj D o) b t v:=(zQ hD).trans h
theorem AA{α:Type}{P:Program}{g:Operand}{ps:Array Tmp}{assign body:Code}{Q:Exit->Act->World->Prop}{a:Act}{w:World}
 {gf:FuncId} {first captured:Array Value} (hg:a.eval g = .func (.func gf) first captured) (eg:∀ args w,(callFunc gf args).run P w = .ok (.enter gf args) w)
 {mk:Value->Array Value} {encs:α->Array Value} {xs:List α} {n₀:Nat} {w0:World} (fu:∀ y,mk y=first ++ #[y]++captured)
 (hit:qR P gf mk encs xs n₀ w0) (br:Below n₀ w0 w) (jn:n₀<=w.heap.size) (eC:∀ x,(encs x).size=ps.size)
 (I:List α->(Nat->Prop)->World->Prop) (Ix:Code->List α->(Nat->Prop)->World->Prop)
 (hI:eq w.heap.size I) (gR:∀ c,eq w.heap.size (Ix c))
 (S0:Nat->Prop) (nK:∀ k,S0 k->n₀<=k) (jk:∀ k,S0 k->k<w.heap.size) (h0:I [] S0 w)
 (zt:∀ (l0:Nat) (pre:List α) (x:α) (S:Nat->Prop) (W:World),pre ++ [x] <+: xs->I pre S W->(∀ k,S k->k<W.heap.size)->
   assign.wpIn (Fence.wide.inRound l0) 0 P (Exit.then (λa₁ W₁=>∃ S',RdStep S W W₁/\(∀ k,S' k->S k\/W.heap.size<=k)/\(∀ k,S' k->k<W₁.heap.size)/\
    ∀ l W₂,ItStep w.heap.size S' W₁ W₂->body.wpIn (Fence.wide.inRound l) 0 P (lV I Ix (pre ++ [x]) S' W₂) a₁ W₂) (λ_ _ _=>False))
    { tmps:=(ps.zip (encs x)).foldl (λt (p,v)=>t.setIfInBounds p v) a.tmps,defers:=[] } W)
 (l7:∀ (D:Nat) (S:Nat->Prop) (W:World),w.heap.size<=D->¬ S D->(∀ k,S k->S0 k\/w.heap.size<=k)->I xs S W->W.heap[D]?=some (.deferred (some []))->
   Q .normal { a with defers:={ target:=.collected D,args:=#[] } :: a.defers } W)
 (kE:∀ (D:Nat) (c:Code) (pre:List α) (S:Nat->Prop) (W:World),w.heap.size<=D->¬ S D->(∀ k,S k->S0 k\/w.heap.size<=k)->pre <+: xs->Ix c pre S W->W.heap[D]?=some (.deferred (some []))->
   c.wpIn Fence.wide 0 P Q { a with defers:={ target:=.collected D,args:=#[] } :: a.defers } W) :
 (Code.rangeFunc g ps assign body).wpIn Fence.wide 0 P Q a w:=
 Hy hg eg fu hit br jn eC I Ix (λpre x S a₁ W=>∀ l W₂,ItStep w.heap.size S W W₂->body.wpIn (Fence.wide.inRound l) 0 P (lV I Ix (pre ++ [x]) S W₂) a₁ W₂)
  hI gR (λ_ _ _ _ _ _ h hs l W₂ h2=>h l W₂ (hs.trans h2)) S0 nK jk h0 zt (λl _ _ _ _ W _ h _=>h l W (ItStep.refl _ _ _)) l7 kE
theorem aeQ{n:Nat}{W W':World}{b:Nat}{t:TypeId}{v:Value}(h:Boxed W b t v)(hs:Below n W W')(hb:b<n:=by omega):Boxed W' b t v:=bB h hs hb
end
section
open Go.RowKit Go.Shelf
attribute [local go_sem] Oper.semAt_some
abbrev ay(l:List UInt8):Value:=.string ⟨l.toArray⟩
def He:Value->Nat
 | .string s=>s.size
 | _=>0
def Du(t:ByteArray)(J:List (List UInt8)->(Nat->Prop)->World->Prop)(S:Nat->Prop)(W:World)(v:Value)(wr:World):Prop:=
 ∃ (pre:List (List UInt8)) (r:ByteArray) (S1:Nat->Prop),v = .string r/\r.size<=140737488355328/\Np.back t.data.toList=pre++(Np.aT r.data.toList).reverse/\
   J pre S1 wr/\(∀ k,S1 k->k<wr.heap.size)/\W.heap.size<=wr.heap.size/\(∀ k,S1 k->S k\/W.heap.size<=k)
theorem Bz(t:ByteArray)(ht:t.size<=140737488355328)(n₀:Nat)(w:World) :
 qR prog 215 (λy=>#[.string t,y]) (λx:List UInt8=>#[ay x]) (Np.back t.data.toList) n₀ w:=by
 intro l J Jx S W hW hJ BX hY hS hS' h0;refine callsIn_of_wp func215 rfl trivial ?_ rfl;simp only[ntmps215,List.size_toArray,List.length_cons,List.length_nil,Nat.reduceAdd,Nat.reduceSub,Array.replicate_succ,Array.replicate_zero,List.push_toArray,List.append_toArray,List.nil_append,List.cons_append];gi_wp2_with fail
 ·have he:(t.toList == [46])=true:=by assumption
  have fT:t.data.toList = [46]:=by rw[<-dQ];simpa using he
  have hb:Np.back t.data.toList = []:=by simp[Np.back,fT]
  refine bodyPost_ret (results_none rfl _ _ _) rfl ?_;exact⟨⟨_,rfl⟩,.inl ⟨S,by rw[hb];exact h0,λk e=>.inl e⟩⟩
 ·have he:(t.toList == [46])=false:=by assumption
  have hne:¬ t.data.toList = [46]:=by rw[<-dQ];simpa using he
  have hb:Np.back t.data.toList=(Np.aT t.data.toList).reverse:=by simp[Np.back,hne]
  have HB:=jq hb;clear hb;gi_loopw [4] (λv wr=>Du t J S W v wr) (λv _=>He v)
  case atStart=>exact⟨[],t,S,rfl,ht,by simpa using HB.out,h0,hS',bQ _,λ_ e=>.inl e⟩
  case round=>
   obtain⟨pre,r,S1,rfl,hr,gD,hj,aa,al,aM⟩:=hrel;have HP:=jq gD;clear gD;gi_wp2_with fail;refine⟨trivial,rfl,?_⟩;refine (callsIn_wide.2 (GO _ hr _ (by decide) (by decide) _)).mono ?_;rintro e w' ⟨q,hq,rfl,rfl⟩;rcases hq with ⟨rfl,fw⟩ | ⟨a,b,fO,kx,rfl⟩
   ·have bd:Np.aT r.data.toList = [r.data.toList]:=Np.vX fw;have hx:pre ++ [r.data.toList] <+: Np.back t.data.toList:=by rw[HP.out,bd];exact List.prefix_refl _
    obtain⟨fn,tmps,assign,body,hy,hR⟩:=hY pre r.data.toList S1 wr hx hj aa al;have nY:Sem.run prog (Instr.yield l #[.string r]) wr = .ok (.round l fn tmps assign body) wr:=hy;clear hy;have HX:=jq hx;clear hx;have HS:=jq bd;clear bd fw;gi_wp2_with fail;refine⟨rfl,hR.mono ?_⟩;rintro e W3 ⟨S3,aA,cK,dH,(⟨rfl,fH⟩ | ⟨rfl,fI⟩)⟩
    all_goals
     gi_wp2_with fail;refine bodyPost_ret (results_none rfl _ _ _) rfl ?_
    ·refine⟨⟨_,rfl⟩,.inl ⟨S3,?_,λk e=>?_⟩⟩
     ·rw[HP.out,HS.out];exact fH
     ·rcases cK k e with e | e
      ·exact aM k e
      ·right;omega
    ·refine⟨⟨_,rfl⟩,.inr ⟨_,S3,HX.out,fI,λk e=>?_⟩⟩;rcases cK k e with e | e
     ·exact aM k e
     ·right;omega
   ·have kF:a.length+1+b.length=r.size:=by rw[<-aX,fO];simp;omega
    have bd:Np.aT r.data.toList=Np.aT a ++ [b]:=by rw[fO];exact (Np.Ak a b).trans (by rw[Np.vX kx])
    have hx:pre ++ [b] <+: Np.back t.data.toList:=by rw[HP.out,bd];simp
    have qs:(r.extract (a.length+1) r.size).data.toList=b:=by rw[BG,fO];simp
    have oO:(r.extract 0 a.length).data.toList=a:=by rw[BH,fO];simp
    have zw:(r.extract 0 a.length).size=a.length:=by rw[<-aX,oO]
    obtain⟨fn,tmps,assign,body,hy,hR⟩:=hY pre b S1 wr hx hj aa al;have nY:Sem.run prog (Instr.yield l #[.string (r.extract (a.length+1) r.size)]) wr = .ok (.round l fn tmps assign body) wr:=by
     have:ay b = .string (r.extract (a.length+1) r.size):=by show Value.string _=_;congr 1;exact jD (by rw[qs])
     simp only[this] at hy;exact hy
    clear hy;have HX:=jq hx;have HS:=jq bd;have HA:=jq oO;have sO:=jq zw;clear hx bd qs oO zw fO kx;have jW:a.length<=140737488355328:=by omega
    have KX:a.length+1<=r.size:=by omega
    have H2:=jq kF;clear kF;gi_wp2_with fail;refine⟨rfl,hR.mono ?_⟩;rintro e W3 ⟨S3,aA,cK,dH,(⟨rfl,fH⟩ | ⟨rfl,fI⟩)⟩
    ·have UU:=aA.size;gi_wp2_with fail;go_roundw
     case rel=>
      refine⟨pre ++ [b],r.extract 0 a.length,S3,rfl,by rw[sO.out];exact jW,?_,fH,dH,by omega,λk e=>?_⟩
      ·rw[HP.out,HS.out,HA.out];simp
      ·rcases cK k e with e | e
       ·exact aM k e
       ·right;omega
     case measure=>show (r.extract 0 a.length).size<r.size;rw[sO.out];omega
    ·gi_wp2_with fail;refine bodyPost_ret (results_none rfl _ _ _) rfl ?_;refine⟨⟨_,rfl⟩,.inr ⟨_,S3,HX.out,fI,λk e=>?_⟩⟩;rcases cK k e with e | e
     ·exact aM k e
     ·right;omega
end
namespace D
open Go.RowKit Go.Shelf
attribute [local go_sem] Oper.semAt_some
def rZ(pre:List (List UInt8)):Bool:=pre.getLast? == some [42]
def Bv(w:World)(xs:List (List UInt8))(pre:List (List UInt8))(S:Nat->Prop)(W:World):Prop:=
 (∀ k,S k↔k=w.heap.size\/k=w.heap.size+1\/k=w.heap.size+1+1)/\Boxed W w.heap.size 4 (.bool false)/\Boxed W (w.heap.size+1) 3 (.int .i64 pre.length)/\Boxed W (w.heap.size+1+1) 4 (.bool (rZ pre))/\
 (pre.length<=8/\∀ rest,xs=pre++rest->Np.eu xs 0 false=Np.eu rest pre.length (rZ pre))/\Below w.heap.size w W
def Bw(w:World)(xs:List (List UInt8))(c:Code)(_:List (List UInt8))(S:Nat->Prop)(W:World):Prop:=
 c = .ret/\(∀ k,S k↔k=w.heap.size\/k=w.heap.size+1\/k=w.heap.size+1+1)/\Boxed W w.heap.size 4 (.bool false)/\Np.eu xs 0 false=false/\Below w.heap.size w W
theorem Ow(w:World)(xs:List (List UInt8))(B:Nat)(hB:w.heap.size<=B):eq B (Bv w xs):=by
 rintro s S W W' ⟨hS,h1,h2,h3,h4,h5⟩ av;exact⟨hS,fL h1 av ((hS _).2 (.inl rfl)),fL h2 av ((hS _).2 (.inr (.inl rfl))),fL h3 av ((hS _).2 (.inr (.inr rfl))),h4,qV h5 av hB (bQ _)⟩
theorem Zz(w:World)(xs:List (List UInt8))(B:Nat)(hB:w.heap.size<=B)(c:Code):eq B (Bw w xs c):=by
 rintro s S W W' ⟨hc,hS,h1,h4,h5⟩ av;exact⟨hc,hS,fL h1 av ((hS _).2 (.inl rfl)),h4,qV h5 av hB (bQ _)⟩
theorem Hs{w:World}{xs pre:List (List UInt8)}{S:Nat->Prop}{W W3:World}{a:Act}(hS:∀ k,S k↔k=w.heap.size\/k=w.heap.size+1\/k=w.heap.size+1+1)
 (hr:RdStep S W W3) (aa:∀ k,S k->k<W.heap.size) (c0:Boxed W3 w.heap.size 4 (.bool false)) (hB:Below w.heap.size w W3) (hg:Np.eu xs 0 false=false) :
 lV (Bv w xs) (Bw w xs) pre S W .ret a (W3.setCell ⟨w.heap.size,0,none⟩ (.bool false)):=
 ⟨S,hr.setCell (.inl ((hS _).2 (.inl rfl))) _,λ_ e=>.inl e,λk e=>by have:=aa k e;have:=hr.size;simp[World.setCell];omega,rfl,hS,c0.set _,hg,hB.setCell (bQ _) _⟩
theorem Ox{w:World}{xs pre rest:List (List UInt8)}{x:List UInt8}{S:Nat->Prop}{W W3:World}{a:Act}(hS:∀ k,S k↔k=w.heap.size\/k=w.heap.size+1\/k=w.heap.size+1+1)
 (hr:RdStep S W W3) (aa:∀ k,S k->k<W.heap.size) (c0:Boxed W3 w.heap.size 4 (.bool false)) (c1:Boxed W3 (w.heap.size+1) 3 (.int .i64 (pre.length+1))) (c2:Boxed W3 (w.heap.size+1+1) 4 (.bool (x == [42])))
 (hB:Below w.heap.size w W3) (qn:pre ++ [x]++rest=xs) (hl:pre.length+1<=8) (hg:Np.eu xs 0 false=Np.eu rest (pre.length+1) (x == [42])) :
 lV (Bv w xs) (Bw w xs) (pre ++ [x]) S W .normal a W3:=by
 have hw:rZ (pre ++ [x])=(x == [42]):=by simp[rZ]
 refine⟨S,hr,λ_ e=>.inl e,λk e=>by have:=aa k e;have:=hr.size;omega,hS,c0,by simpa using c1,by rw[hw];exact c2,⟨by simpa using hl,λr h=>?_⟩,hB⟩
 have:r=rest:=List.append_cancel_left (h.symm.trans qn.symm)
 rw[hg,this,hw];simp
theorem valid_any(t:ByteArray)(ht:t.size<=140737488355328)(w:World) :
 Calls prog 175 #[.string t] w λe w'=>e = .returned (.bool (Np.aD t.data.toList))/\Below w.heap.size w w':=by
 refine (callsIn_wide (n:=0)).1 ?_;refine callsIn_of_wp_marks func175 rfl trivial ?_ rfl;simp only[ntmps175,List.size_toArray,List.length_cons,List.length_nil,Nat.reduceAdd,Nat.reduceSub,Array.replicate_succ,Array.replicate_zero,List.push_toArray,List.append_toArray,List.nil_append,List.cons_append];gi_wp2_with fail
 ·have he:(t.toList == [46])=true:=by assumption
  have fT:t.data.toList = [46]:=by rw[<-dQ];simpa using he
  exact lY (v:=.bool true) (by simp[results,results175,go_sem]) ⟨by rw[Np.aD,Qb fT],(vQ _ _).alloc (bQ _) _⟩
 ·have he:(t.toList == [46])=false:=by assumption
  have fT:¬ t.data.toList = [46]:=by rw[<-dQ];simpa using he
  have hl:60<(t.size:Int):=by assumption
  exact lY (v:=.bool false) (by simp[results,results175,go_sem]) ⟨by rw[Np.aD,Qc fT,Qb (by rw[aX];omega)],(vQ _ _).alloc (bQ _) _⟩
 ·have he:(t.toList == [46])=false:=by assumption
  have fT:¬ t.data.toList = [46]:=by rw[<-dQ];simpa using he
  have hl:(t.size:Int)<=60:=by assumption
  have hv:Np.aD t.data.toList=Np.eu (Np.back t.data.toList) 0 false:=by
   rw[Np.aD,Qc fT,Qc (by rw[aX];omega),Np.back,Qc fT]
  have HV:=jq hv;clear hv;have b0:=Boxed.new w 4 (.bool false);have b1:=Boxed.new (w.alloc (.cells #[.bool false] 4)) 3 (.int .i64 0);have b2:=Boxed.new ((w.alloc (.cells #[.bool false] 4)).alloc (.cells #[.int .i64 0] 3)) 4 (.bool false);simp only[World.size_alloc] at b1 b2;refine AA (n₀:=w.heap.size) (w0:=w) (first:=#[.string t]) (captured:=#[]) (gf:=215) rfl (enters_of func215 (by kernel_rfl) rfl) (mk:=λy=>#[.string t,y]) (λ_=>rfl)
   (Bz t ht _ w) ((((vQ _ w).alloc (bQ _) _).alloc (by simp) _).alloc (by simp;omega) _) (by simp;omega) (λ_=>rfl) (Bv w (Np.back t.data.toList)) (Bw w (Np.back t.data.toList))
   (Ow _ _ _ (by simp;omega)) (λc=>Zz _ _ _ (by simp;omega) c)
   (λk=>k=w.heap.size\/k=w.heap.size+1\/k=w.heap.size+1+1) (by intro k h;omega) (by intro k h;simp;omega)
   ⟨λ_=>Iff.rfl,(b0.alloc _).alloc _,b1.alloc _,b2,⟨by simp,λrest h=>by rw[h];rfl⟩,(((vQ _ w).alloc (bQ _) _).alloc (by simp) _).alloc (by simp;omega) _⟩ ?round ?done ?stop
  case round=>
   rintro l0 pre x S W aU hI eW;gi_wp2;refine⟨S,RdStep.refl _ _,λk e=>.inl e,eW,?_⟩;intro l W₂ av;obtain⟨hS,c0,c1,c2,hg,hB⟩:=Ow w _ _ (by simp;omega) pre S W W₂ hI av;have c0c:=c0.cell;have c1c:=c1.cell;have c2c:=c2.cell;have c0f:=c0.frozen;have c1f:=c1.frozen;have c2f:=c2.frozen;have hlen:=hg.1;have hx:x∈Np.back t.data.toList:=aU.subset (by simp);have qu:x.length<=60:=by have:=Np.By hx;rw[aX] at this;omega
   have ml:(⟨x.toArray⟩:ByteArray).size<=140737488355328:=by rw[<-aX];simp;omega
   obtain⟨rest,qn⟩:=aU;have iR:Np.eu (Np.back t.data.toList) 0 false=Np.eu (x::rest) pre.length (rZ pre):=hg.2 _ (by rw[<-qn];simp);have HR:=jq qn;have HG:=jq iR;have yw:∀ (b:Nat) (u:Value),w.heap.size<=b->Below w.heap.size w (W₂.setCell ⟨b,0,none⟩ u):=λb u hb=>hB.setCell (p:=⟨b,0,none⟩) hb u;have eB:∀ k,S k->k<W₂.heap.size:=λk e=>lQ (eW k e) av.size;clear qn iR hg hx;gi_wp2_with (refine⟨trivial,rfl,?_⟩;gi_at_call 245;refine (CallsIn.inRound l (callsIn_wide.2 (VQ _ ml _))).mono ?_;rintro e w' ⟨rfl,rfl⟩)
   ·exact Hs hS (RdStep.setCell (RdStep.refl S W₂) (p:=⟨w.heap.size+1,0,none⟩) (.inl ((hS _).2 (.inr (.inl rfl)))) _) eB (bK c0 (p:=⟨w.heap.size+1,0,none⟩) (by simp) _) (yw _ _ (by omega))
     (by rw[HG.out];have:rZ pre=true:=by assumption
         simp[Np.eu,this])
   ·exact Hs hS (RdStep.setCell (RdStep.refl S W₂) (p:=⟨w.heap.size+1,0,none⟩) (.inl ((hS _).2 (.inr (.inl rfl)))) _) eB (bK c0 (p:=⟨w.heap.size+1,0,none⟩) (by simp) _) (yw _ _ (by omega))
     (by rw[HG.out];have:8<pre.length+1:=by omega
         simp[Np.eu,this])
   ·have bA:x = [42]:=by assumption
    have e:(x == [42])=true:=by simp[bA]
    have ee:(pre.length:Int)+1<=8:=by assumption
    have h1:¬ rZ pre=true:=by assumption
    have h2:¬ 8<pre.length+1:=by omega
    refine⟨trivial,?_⟩;gi_wp2;exact Ox hS (RdStep.setCell (RdStep.setCell (RdStep.refl S W₂) (p:=⟨w.heap.size+1,0,none⟩) (.inl ((hS _).2 (.inr (.inl rfl)))) _) (p:=⟨w.heap.size+1+1,0,none⟩) (.inl ((hS _).2 (.inr (.inr rfl)))) _) eB
     (bK (bK c0 (p:=⟨w.heap.size+1,0,none⟩) (by simp) _) (p:=⟨w.heap.size+1+1,0,none⟩) (by simp <;> omega) _)
     (bK (c1.set _) (p:=⟨w.heap.size+1+1,0,none⟩) (by simp <;> omega) _) (by rw[e];exact (bK c2 (p:=⟨w.heap.size+1,0,none⟩) (by simp) _).set _)
     ((yw _ _ (by omega)).setCell (p:=⟨w.heap.size+1+1,0,none⟩) (by simp;omega) _) HR.out (by omega) (by rw[HG.out];simp[Np.eu,h1,h2,bA])
   ·have hl:(!x == [42])=true/\(!Np.bP x)=true:=by assumption
    have bA:¬ x = [42]:=by assumption
    exact Hs hS (RdStep.setCell (RdStep.setCell (RdStep.refl S W₂) (p:=⟨w.heap.size+1,0,none⟩) (.inl ((hS _).2 (.inr (.inl rfl)))) _) (p:=⟨w.heap.size+1+1,0,none⟩) (.inl ((hS _).2 (.inr (.inr rfl)))) _) eB
     (bK (bK c0 (p:=⟨w.heap.size+1,0,none⟩) (by simp) _) (p:=⟨w.heap.size+1+1,0,none⟩) (by simp <;> omega) _)
     ((yw _ _ (by omega)).setCell (p:=⟨w.heap.size+1+1,0,none⟩) (by simp;omega) _)
     (by rw[HG.out];have h2:Np.bP x=false:=by simpa using hl.2
         simp[Np.eu,bA,h2])
   ·have hl:(!x == [42])=false\/(!Np.bP x)=false:=by assumption
    have bA:¬ x = [42]:=by assumption
    have e:(x == [42])=false:=by simp[bA]
    have ee:(pre.length:Int)+1<=8:=by assumption
    have h1:¬ rZ pre=true:=by assumption
    have h2:¬ 8<pre.length+1:=by omega
    have h3:Np.bP x=true:=by simpa [e] using hl
    exact Ox hS (RdStep.setCell (RdStep.setCell (RdStep.refl S W₂) (p:=⟨w.heap.size+1,0,none⟩) (.inl ((hS _).2 (.inr (.inl rfl)))) _) (p:=⟨w.heap.size+1+1,0,none⟩) (.inl ((hS _).2 (.inr (.inr rfl)))) _) eB
     (bK (bK c0 (p:=⟨w.heap.size+1,0,none⟩) (by simp) _) (p:=⟨w.heap.size+1+1,0,none⟩) (by simp <;> omega) _)
     (bK (c1.set _) (p:=⟨w.heap.size+1+1,0,none⟩) (by simp <;> omega) _) ((bK c2 (p:=⟨w.heap.size+1,0,none⟩) (by simp) _).set _)
     ((yw _ _ (by omega)).setCell (p:=⟨w.heap.size+1+1,0,none⟩) (by simp;omega) _) HR.out (by omega) (by rw[HG.out];simp[Np.eu,h1,h2,bA,h3,e])
  case done=>
   rintro D S W hD ew aM ⟨hS,c0,c1,c2,hg,hB⟩ hK;have c0c:=c0.cell;have c0f:=c0.frozen;have pY:Np.eu (Np.back t.data.toList) 0 false=true:=by rw[hg.2 [] (by simp)];rfl
   have BV:w.heap.size≠D:=λe=>ew ((hS _).2 (.inl e.symm));clear hg;have HE:=jq pY;clear pY;gi_wp2;have hK':(W.setCell ⟨w.heap.size,0,none⟩ (.bool true)).heap[D]?=some (.deferred (some [])):=(wQ _ _ _ _ (by simpa using BV.symm)).trans hK;have c5:=(nF (c0.set (.bool true)) BV (.deferred none)).cell;exact mN hK' (v:=.bool true) (by simp[results,results175,go_sem,c5]) ⟨by rw[HV.out,HE.out],mK (hB.setCell (bQ _) _) (by simp at hD;omega) _⟩
  case stop=>
   rintro D c pre S W hD ew aM gD ⟨rfl,hS,c0,hg,hB⟩ hK;have BV:w.heap.size≠D:=λe=>ew ((hS _).2 (.inl e.symm));have HE:=jq hg;clear hg;gi_wp2;have c5:=(nF c0 BV (.deferred none)).cell;exact mN hK (v:=.bool false) (by simp[results,results175,go_sem,c5]) ⟨by rw[HV.out,HE.out],mK hB (by simp at hD;omega) _⟩
theorem nameValid_any(t:ByteArray)(ht:t.size<=140737488355328)(w:World) :
 Calls prog 105 #[.string t] w λe w'=>e = .returned (.bool (Np.aD t.data.toList))/\Below w.heap.size w w':=by
 go_enter func105,ntmps105;go_wp2_with (go_at_call 175;refine (valid_any _ ht _).mono ?_;rintro e w' ⟨rfl,hb⟩);go_ret;exact⟨rfl,hb⟩
end D
section
open Go.RowKit
theorem valid_any(t:ByteArray)(ht:t.size<=140737488355328)(w:World) :
 Calls prog 175 #[.string t] w (aeJ w.heap.size w (.bool (Np.aD t.data.toList))):=
 (D.valid_any t ht w).mono λ_ _ h=>⟨h.1,h.2.low⟩
theorem nameValid_any(t:ByteArray)(ht:t.size<=140737488355328)(w:World) :
 Calls prog 105 #[.string t] w (aeJ w.heap.size w (.bool (Np.aD t.data.toList))):=
 (D.nameValid_any t ht w).mono λ_ _ h=>⟨h.1,h.2.low⟩
theorem Hx(x lo hi:Int)(w:World) :
 Calls prog 228 #[.int .i64 x,.int .i64 lo,.int .i64 hi] w (aeY w (.bool (decide (lo<=x)&&decide (x<=hi)))):=by
 by_cases h1:lo<=x
 all_goals
  go_enter func228,ntmps228;go_wp2;go_ret;exact⟨ae (by simp;omega),rfl⟩
theorem Mu(s:ByteArray)(h:1<=s.size):((s.extract 0 1).toList == [42])=Np.dO s.data.toList:=by
 rw[dQ,BH];unfold Np.dO;have hl:1<=s.data.toList.length:=by rw[aX];exact h
 cases hd:s.data.toList with
 | nil=>rw[hd] at hl;simp at hl
 | cons a r=>rw[Bool.eq_iff_iff];simp
theorem Mv(s:ByteArray)(hs:s.size<=140737488355328)(w:World) :
 Calls prog 229 #[.string s] w (aeY w (.bool (Np.dO s.data.toList))):=by
 have h1:1<=s.size->((s.extract 0 1).toList == [42])=Np.dO s.data.toList:=Mu s;have h2:s.size<1->Np.dO s.data.toList=false:=λh=>by
  have:s.data.toList = []:=rQ (by rw[aX];omega)
  rw[this];rfl
 have H1:=jq h1;have H2:=jq h2;clear h1 h2;go_enter func229,ntmps229;go_wp2
 ·go_ret;exact⟨ae (H1.out (by omega)),rfl⟩
 ·go_ret;exact⟨ae (H2.out (by omega)).symm,rfl⟩
theorem RG(s t:ByteArray)(w:World) :
 Calls prog 303 #[.string s,.string t] w (aeY w (.int .i64 (Np.bX s.data.toList t.data.toList))):=by
 go_enter func303,ntmps303;go_wp2
 ·have h:Op.bytesLess s.toList t.toList=true:=by assumption
  simp only[dQ] at h;go_ret;exact⟨gE (by simp[Np.bX,h]),rfl⟩
 ·have h:Op.bytesLess s.toList t.toList=false:=by assumption
  have h2:(!s.toList == t.toList)=true:=by assumption
  simp only[dQ] at h h2;have h3:¬ s.data.toList=t.data.toList:=by simpa using h2
  go_ret;exact⟨gE (by rw[Np.bX,Qc (by simp[h]),Qc h3]),rfl⟩
 ·have h:Op.bytesLess s.toList t.toList=false:=by assumption
  have h2:(!s.toList == t.toList)=false:=by assumption
  simp only[dQ] at h h2;have h3:s.data.toList=t.data.toList:=by simpa using h2
  go_ret;exact⟨gE (by rw[Np.bX,Qc (by simp[h]),Qb h3]),rfl⟩
theorem xS(s t:Int)(w:World) :
 Calls prog 123 #[.int .i64 s,.int .i64 t] w (aeY w (.int .i64 (Np.b7 s t))):=by
 go_enter func123,ntmps123;go_wp2
 ·go_ret;exact⟨gE (by rw[Np.b7,Qb ‹_›]),rfl⟩
 ·go_ret;exact⟨gE (by rw[Np.b7,Qc (by omega),Qb ‹_›]),rfl⟩
 ·go_ret;exact⟨gE (by rw[Np.b7,Qc (by omega),Qc (by omega)]),rfl⟩
theorem BN(c:UInt8):Np.mO c=decide ((97<=(c.toNat:Int)/\(c.toNat:Int)<=122)\/(48<=(c.toNat:Int)/\(c.toNat:Int)<=57)\/(c.toNat:Int)=32):=by
 have h:=no c 32 (by decide);unfold Np.mO Np.oS Np.mo;rw[show (32:UInt8)=UInt8.ofNat 32 from rfl,h,Bool.eq_iff_iff];simp[UInt8.le_iff_toNat_le];omega
theorem Mm(s:ByteArray)(h:(s.size:Int)<1):Np.iV s.data.toList=false:=by
 have:¬ 1<=s.size:=by omega
 simp[Np.iV,this]
theorem Mn(s:ByteArray)(h:40<(s.size:Int)):Np.iV s.data.toList=false:=by
 have:¬ s.size<=40:=by omega
 simp[Np.iV,this]
theorem Mo(s:ByteArray)(h0:0<s.size)(h:(s[0].toNat:Int)=32):Np.iV s.data.toList=false:=by
 have e:=no s[0] 32 (by decide);rw[uQ (by simpa using h)] at e;have e2:s[0]=(32:UInt8):=by simpa using e
 simp[Np.iV,yI s h0,e2]
theorem Mp(s:ByteArray)(h0:s.size - 1<s.size)(h:(s[s.size - 1].toNat:Int)=32):Np.iV s.data.toList=false:=by
 have e:=no s[s.size - 1] 32 (by decide);rw[uQ (by simpa using h)] at e;have e2:s[s.size - 1]=(32:UInt8):=by simpa using e
 simp[Np.iV,CJ s h0,e2]
theorem Mr(s:ByteArray)(k:Nat)(hk:k<s.size)(h:Np.mO s[k]=false):Np.iV s.data.toList=false:=by
 have:s.data.toList.all Np.mO=false:=by
  rw[List.all_eq_false];exact⟨s[k],by rw[<-cQ.1 (uN s k hk) |>.2];exact List.getElem_mem _,by simp[h]⟩
 simp[Np.iV,this]
theorem Ms(s:ByteArray)(h1:1<=s.size)(h2:s.size<=40)(h3:¬ (s[0].toNat:Int)=32)(h4:¬ (s[s.size - 1].toNat:Int)=32)(h5:s.data.toList.all Np.mO=true):Np.iV s.data.toList=true:=by
 have e:=no s[0] 32 (by decide);have e':=no s[s.size - 1] 32 (by decide);rw[tQ (by simpa using h3)] at e;rw[tQ (by simpa using h4)] at e';have e2:¬ s[0]=(32:UInt8):=by simpa using e
 have e3:¬ s[s.size - 1]=(32:UInt8):=by simpa using e'
 simp[Np.iV,CJ s (by omega),yI s (by omega),e2,e3,h5,h1,h2]
theorem VI(s:ByteArray)(hs:s.size<=140737488355328)(w:World) :
 Calls prog 301 #[.string s] w (aeY w (.bool (Np.iV s.data.toList))):=by
 ·go_enter func301,ntmps301;go_wp2
  rotate_right
  ·go_ret;exact⟨ae (Mm s ‹_›).symm,rfl⟩
  ·go_ret;exact⟨ae (Mn s ‹_›).symm,rfl⟩
  ·go_ret;exact⟨ae (Mo s ‹_› ‹_›).symm,rfl⟩
  ·have h:((s[s.size - 1].toNat:Int) == 32)=true:=by assumption
   go_ret;exact⟨ae (Mp s (by omega) (by simpa using h)).symm,rfl⟩
  ·have h2:(s.size:Int)<=40:=by assumption
   have h3:¬ (s[0].toNat:Int)=32:=by assumption
   have h4:((s[s.size - 1].toNat:Int) == 32)=false:=by assumption
   have H4:=jq h4;clear h4;have H3:=jq h3;go_loop [24] (λi=>∃ k:Nat,k<=s.size/\i = .int .i64 k/\(s.data.toList.take k).all Np.mO=true) (λi=>s.size - (intOf i).toNat)
   case atStart=>exact⟨0,jQ _,rfl,rfl⟩
   case round=>
    obtain⟨k,hk,rfl,ha⟩:=hrel;have HA:=jq ha;clear ha;by_cases aa:k<s.size
    ·have hb:=wk s[k];by_cases hf:(97<=(s[k].toNat:Int)/\(s[k].toNat:Int)<=122)\/(48<=(s[k].toNat:Int)/\(s[k].toNat:Int)<=57)\/(s[k].toNat:Int)=32
     ·have hl:Np.mO s[k]=true:=by rw[BN];exact uQ hf
      have HL:=jq hl;clear hl;go_wp2
      all_goals first
       | (go_round
          case rel=>exact⟨k+1,by omega,by go_num,EW s k aa _ HA.out HL.out⟩
          case measure=>simp[intOf] <;> omega)
       | (exfalso
          have hne:((s[k].toNat:Int) != 32)=true:=by assumption
          have ze:=bne_iff_ne.1 hne;omega)
     ·have hl:Np.mO s[k]=false:=by rw[BN];exact tQ hf
      have HL:=jq hl;clear hl;go_wp2
      all_goals first
       | (go_ret;exact⟨ae (Mr s k aa HL.out).symm,rfl⟩)
       | (exfalso;omega)
       | (exfalso
          have hne:((s[k].toNat:Int) != 32)=false:=by assumption
          have ze:(s[k].toNat:Int)=32:=by simpa using hne
          omega)
    ·go_wp2;go_ret;exact⟨ae (Ms s (by omega) (by omega) H3.out (by simpa using H4.out) (by have:=HA.out;rwa [Dg s k (by omega)] at this)).symm,rfl⟩
end
namespace Np
def cls(c:UInt8):Nat:=
 if c=32\/c=9\/c=10 then 1 else if c=35 then 2 else if oS c||mo c||c == 42 then 3 else if c=45 then 4 else if c=46 then 5 else if c=34 then 6
 else if c=123\/c=125\/c=59\/c=44\/c=61\/c=64 then 7 else 0
def qx(c:UInt8):Bool:=cls c == 3||cls c == 4||cls c == 5
def MR(c:UInt8):Bool:=c != 10
def GM(c:UInt8):Bool:=c != 34&&c != 10
def XG(r:List UInt8):Nat:=if 1<=(r.takeWhile GM).length/\r[(r.takeWhile GM).length]?=some 34 then (r.takeWhile GM).length+2 else 0
def OB:List UInt8->Nat
 | []=>0
 | c::r=>match cls c with
   | 1=>1
   | 2=>((c::r).takeWhile MR).length
   | 3=>((c::r).takeWhile qx).length
   | 5=>if ((c::r).takeWhile qx).length=1 then 1 else 0
   | 6=>XG r
   | 7=>1
   | _=>0
structure Tok where
 kind:Int
 text:List UInt8
 n:Int
 pos:Int
deriving DecidableEq
def Tok.zero:Tok:=⟨0,[],0,0⟩
def dec(s:List UInt8):Nat:=s.foldl (λa c=>10 * a+(c.toNat - 48)) 0
def Au(k:Nat)(s:List UInt8):Int×Tok:=
 if k=7 then (0,⟨3,s,0,0⟩)
 else if k=6 then (if 42<s.length then (3,Tok.zero) else (0,⟨1,s,0,0⟩))
 else if s.all mo=false then (if 60<s.length then (3,Tok.zero) else (0,⟨1,s,0,0⟩))
 else if 1<s.length/\s.head?=some 48 then (10,Tok.zero)
 else if 1000000000<dec s then (3,Tok.zero) else (0,⟨2,[],dec s,0⟩)
def mZ:List UInt8->Nat->Nat->List Tok×Int×Nat
 | [],_,_=>([],0,0)
 | c::r,p,k=>
  let n:=OB (c::r)
  if cls c=1\/cls c=2 then mZ (r.drop (n - 1)) (p+n) k
  else if n=0 then ([],10,p)
  else if k=2000 then ([],2,p)
  else if (Au (cls c) ((c::r).take n)).1≠0 then ([],(Au (cls c) ((c::r).take n)).1,p)
  else
   let x:=mZ (r.drop (n - 1)) (p+n) (k+1)
   ({ (Au (cls c) ((c::r).take n)).2 with pos:=p } :: x.1,x.2)
termination_by l=>l.length
decreasing_by all_goals (simp;omega)
def lex(s:List UInt8):List Tok×Int×Nat:=
 if 8000<s.length then ([],2,0) else if (mZ s 0 0).2.1=0 then ((mZ s 0 0).1,0,0) else ([],(mZ s 0 0).2)

end Np
section
open Go.RowKit
def orI:List Int->Int
 | []=>0
 | x::xs=>if x≠0 then x else orI xs
theorem W7(xs:List Int)(h:∀ x∈xs,x=0):orI xs=0:=by
 induction xs with
 | nil=>rfl
 | cons x r ih=>rw[orI,Qc (by simp[h x (by simp)])];exact ih (λy hy=>h y (by simp[hy]))
theorem W6(xs:List Int)(k:Nat)(hk:k<xs.length)(h:∀ x∈xs.take k,x=0)(hx:xs[k]≠0):orI xs=xs[k]:=by
 induction xs generalizing k with
 | nil=>simp at hk
 | cons x r ih=>
  cases k with
  | zero=>simp at hx;simp[orI,hx]
  | succ k=>
   have h0:x=0:=h x (by simp);rw[orI,Qc (by simp[h0])];simpa using ih k (by simpa using hk) (λy hy=>h y (by simp[hy])) (by simpa using hx)
theorem RF(b c:Nat)(xs:List Int)(hl:xs.length<=1000)(w:World)(hc:∀ i x,xs[i]?=some x->w.cell? ⟨b,i,none⟩=some (.int .i64 x)) :
 Calls prog 302 #[.slice (some ⟨b,0,none⟩) xs.length c] w (aeY w (.int .i64 (orI xs))):=by
 have HC:=jq hc;clear hc;go_enter func302,ntmps302;go_wp2;go_loop [8] (λi=>∃ k:Nat,k<=xs.length/\i = .int .i64 k/\Hid (∀ x∈xs.take k,x=0)) (λi=>xs.length - (intOf i).toNat)
 case atStart=>exact⟨0,jQ _,rfl,jq (by simp)⟩
 case round=>
  obtain⟨k,hk,rfl,HA⟩:=hrel;by_cases aa:k<xs.length
  ·have hcell:w.cell? ⟨b,k,none⟩=some (.int .i64 xs[k]):=HC.out k _ (aQ aa);go_wp2
   ·have hne:(xs[k] != 0)=true:=by assumption
    go_ret;exact⟨gE (W6 xs k aa HA.out (by simpa using hne)).symm,rfl⟩
   ·have hne:(xs[k] != 0)=false:=by assumption
    go_round
    case rel=>
     refine⟨k+1,by omega,by go_num,jq ?_⟩;rw[fQ aa];intro x hx;rcases List.mem_append.1 hx with h | h
     ·exact HA.out x h
     ·simp at h;subst h;simpa using hne
    case measure=>simp[intOf] <;> omega
  ·go_wp2;go_ret;exact⟨gE (W7 xs (by have:=HA.out;rwa [kQ (by omega)] at this)).symm,rfl⟩
theorem RE(a b:Np.Datum):Np.oC a b=orI [Np.bX a.text b.text,Np.b7 a.n b.n,Np.b7 a.m b.m]:=by
 simp only[Np.oC,orI];split
 ·rfl
 ·split
  ·rfl
  ·split
   ·rfl
   ·rename_i h;simpa using h
theorem RK(s t:ByteArray)(n1 m1 n2 m2:Int)(w:World) :
 Calls prog 231 #[.agg #[.string s,.int .i64 n1,.int .i64 m1],.agg #[.string t,.int .i64 n2,.int .i64 m2]] w
  λe w'=>e = .returned (.int .i64 (Np.oC ⟨s.data.toList,n1,m1⟩ ⟨t.data.toList,n2,m2⟩))/\Below w.heap.size w w':=by
 rw[RE];go_enter func231,ntmps231;go_wp2;refine OH 15 (by kernel_rfl) (by kernel_rfl) ?_;simp only[List.take_succ_cons,List.take_zero,List.drop_succ_cons,List.drop_zero]
 iterate 4 still_step
 still_call (Calls.still_same (RG _ _ _))
 iterate 4 still_step
 still_call (Calls.still_same (xS _ _ _))
 iterate 4 still_step
 still_call (Calls.still_same (xS _ _ _))
 refine wpStill_nil ?_;go_wp2_with fail;refine (RF (w.heap.size+1+1) 3 [Np.bX s.data.toList t.data.toList,Np.b7 n1 n2,Np.b7 m1 m2] (by simp) _ ?_).mono ?_
 ·intro i x hx
  match i,hx with
  | 0,hx=>simp at hx;subst hx;go_simp
  | 1,hx=>simp at hx;subst hx;go_simp
  | 2,hx=>simp at hx;subst hx;go_simp
  | i+3,hx=>simp at hx
 ·rintro e w' ⟨rfl,rfl⟩;go_wp2_with fail;go_ret;exact⟨rfl,((((vQ _ w).alloc (bQ _) _).alloc (by simp) _).alloc (by simp;omega) _).drew⟩
def g8(r:Np.Rule):Array Value:=#[.int .i64 r.text,.int .i64 r.leastN,.int .i64 r.mostN,.int .i64 r.leastM,.int .i64 r.mostM,.bool r.even,.bool r.single,.bool r.wild]
theorem ZB(k ln mn lm mm:Int)(ev si wi:Bool)(s:ByteArray)(hs:s.size<=140737488355328)(n m:Int)(w:World) :
 Calls prog 230 #[.agg #[.int .i64 k,.int .i64 ln,.int .i64 mn,.int .i64 lm,.int .i64 mm,.bool ev,.bool si,.bool wi],.agg #[.string s,.int .i64 n,.int .i64 m]] w
  λe w'=>e = .returned (.bool (Np.iZ ⟨k,ln,mn,lm,mm,ev,si,wi⟩ ⟨s.data.toList,n,m⟩))/\Below w.heap.size w w':=by
 go_enter func230,ntmps230;go_wp2_with (first
  | (go_at_call 228;refine (Hx _ _ _ _).mono ?_;rintro e w' ⟨rfl,rfl⟩)
  | (go_at_call 105;refine (nameValid_any _ hs _).mono ?_;rintro e w' ⟨rfl,hb⟩;obtain⟨hc,hf⟩:=qT hb)
  | (go_at_call 229;refine (Mv _ hs _).mono ?_;rintro e w' ⟨rfl,rfl⟩)
  | (go_at_call 301;refine (VI _ hs _).mono ?_;rintro e w' ⟨rfl,rfl⟩))
 all_goals
  go_ret;go_light;refine⟨ae ?_,?_⟩
  ·simp_all [Np.iZ,Np.ue,dQ] <;> (intros;omega)
  ·first
    | exact ((vQ _ w).alloc (bQ _) _).alloc (by simp) _
    | exact (((vQ _ w).alloc (bQ _) _).alloc (by simp) _).trans (hb.mono (by simp;omega))
end
namespace Np
structure IsGap(g:List UInt8):Prop where
 skip:∀ x p k,mZ (g++x) p k=mZ x (p+g.length) k
 stop:∃ c r,g=c::r/\qx c=false
 rest:∀ p k,mZ (g.drop (g.takeWhile MR).length) p k=([],0,0)
def lX(n:Nat):List UInt8:=if n<10 then [UInt8.ofNat (48+n)] else lX (n / 10) ++ [UInt8.ofNat (48+n % 10)]
theorem R4(t:List UInt8)(c:UInt8):dec (t ++ [c])=10 * dec t+(c.toNat - 48):=by simp[dec]
theorem TP{t u:List UInt8}(h:t≠[]):(t++u).head?=t.head?:=by
 cases t with
 | nil=>exact absurd rfl h
 | cons a t=>rfl
def OR(y:List UInt8):Prop:=y = []\/y.head?=some 32
def BD(t:Tok):Tok:={ t with pos:=0 }
def mw(x:List UInt8)(t:Tok):Prop:=∃ c r,x=c::r/\¬ (cls c=1\/cls c=2)/\(∀ y,OR y->OB (x++y)=x.length)/\(Au (cls c) x).1=0/\BD (Au (cls c) x).2=BD t
structure Sig where
 zone:List UInt8
 key:Int
 alg:Int
 frm:Int
 til:Int
 sum:Int
deriving DecidableEq
structure Signed where
 set:DSet
 sigs:List Sig
deriving DecidableEq
structure Span where
 frm:Int
 til:Int
deriving DecidableEq
def ua(g x:Sig):Bool:=(x.frm != g.frm)||(x.til != g.til)
def lI:List Sig->Bool
 | []=>true
 | g::r=>!(decide (g.frm<0)||decide (g.til<g.frm)||decide (20000000<g.til))&&!((g::r).any (ua g))
def plain(s:Signed):Bool:=da s.set&&decide (s.sigs.length<=6)&&lI s.sigs
def gG(s:Signed)(drift stop:Int):Int:=if 0<=drift/\drift<=1000/\1<=stop/\stop<=20000000/\plain s=true then 0 else 1
def nm(s:Signed)(drift:Int):Int:=match s.sigs with | []=>0 | g::_=>g.frm+drift
def nn(s:Signed)(drift stop:Int):Int:=match s.sigs with | []=>stop | g::_=>min stop (g.til - drift+1)
def fl(s:Signed)(drift stop:Int):List Span:=
 if gG s drift stop=0 then (if nn s drift stop<=nm s drift then [] else [⟨nm s drift,nn s drift stop⟩]) else []
def vZ(length drift life:Int):Int:=length - max life 1 - 3 * drift+2
def At(begin stop length drift life:Int):Prop:=0<=drift/\drift<=1000/\1<=stop/\stop<=10000000/\drift<=begin/\begin<=stop - 1/\1<=length/\length<=10000000/\0<=life/\life<=100000
instance (b s l d f:Int):Decidable (At b s l d f):=by unfold At;infer_instance
def fz(b s k:Int):List Int:=(List.range ((s - b+k - 1) / k).toNat).map λ(i:Nat)=>b+i * k
def kP(b s l d f:Int):Int:=if At b s l d f then (if vZ l d f<1 then 32 else if 400<(fz b s (vZ l d f)).length then 2 else 0) else 1
def times(b s l d f:Int):List Int:=if kP b s l d f=0 then fz b s (vZ l d f) else []
structure Zone where
 apex:List UInt8
 sets:List Signed
deriving DecidableEq
def lW:List (List UInt8)->List (List UInt8)->Int
 | [],_=>-1
 | _::_,[]=>1
 | x::xs,y::ys=>if bX x y≠0 then bX x y else lW xs ys
def aH(a b:List UInt8):Int:=if a=b then 0 else lW (back a) (back b)
def fM(a b:DSet):Int:=if a.name≠b.name then aH a.name b.name else b7 a.type b.type
def aZ(s z:List UInt8):Bool:=s == z||z == [46]||(decide (z.length<s.length)&&(s.drop (s.length - z.length) == z)&&(s[s.length - z.length - 1]? == some 46))
def iL(apex:List UInt8):Option DSet->List Signed->Bool
 | _,[]=>true
 | p,x::r=>(aD x.set.name&&aZ x.set.name apex)&&da x.set&&(match p with | none=>true | some q=>decide (fM q x.set<0))&&iL apex (some x.set) r
def ei(z:Zone):Bool:=aD z.apex&&!dO z.apex&&iL z.apex none z.sets
theorem KD:∀ (xs:List (List UInt8)) (n:Nat) (w:Bool),eu xs n w=true->∀ x∈xs,x = [42]\/bP x=true:=by
 intro xs
 induction xs with
 | nil=>intro _ _ _ x h;cases h
 | cons y xs ih=>
  intro n w h x hx;rw[eu] at h;split at h
  ·cases h
  ·split at h
   ·rename_i hy;rcases List.mem_cons.1 hx with rfl | hx
    ·exact .inl hy
    ·exact ih _ _ h x hx
   ·split at h
    ·rename_i hy;rcases List.mem_cons.1 hx with rfl | hx
     ·exact .inr hy
     ·exact ih _ _ h x hx
    ·cases h
theorem Fh{r:Rule} : ∀ {ds:List Datum} {p:Option Datum},il r p ds=true->∀ d∈ds,iZ r d=true
 | [],_,_,d,h=>by cases h
 | e::ds,p,h,d,hd=>by
   simp only[il,Bool.and_eq_true] at h;rcases List.mem_cons.1 hd with rfl | hd
   ·exact h.1.1
   ·exact Fh h.2 d hd
theorem rY{s:DSet}(h:da s=true):aD s.name=true/\1<=s.type/\s.type<=8/\0<=s.life/\s.life<=100000/\1<=s.data.length/\s.data.length<=8/\il (bD s.type) none s.data=true:=by
 unfold da at h;simp only[Bool.and_eq_true,Qa] at h;obtain⟨⟨⟨⟨⟨⟨h1,h2,h3⟩,h4,h5⟩,h6,h7⟩,_⟩,_⟩,h8⟩:=h;exact⟨h1,h2,h3,h4,h5,h6,h7,h8⟩
theorem BP{apex:List UInt8} : ∀ {l:List Signed} {p:Option DSet},iL apex p l=true->∀ x∈l,da x.set=true
 | [],_,_,x,h=>by cases h
 | y::l,p,h,x,hx=>by
   simp only[iL,Bool.and_eq_true] at h;rcases List.mem_cons.1 hx with rfl | hx
   ·exact h.1.1.2
   ·exact BP h.2 x hx
end Np
end Go.Proofs.YtfnopgdcaanaiaaGreatDoor
namespace Go.Proofs
open YtfnopgdcaanaiaaGreatDoor
open Go.Shelf
def Tryz.lays106_ren:Go.Shelf.Ren:=⟨fun | 106=>216 | 213=>299 | 265=>346 | n=>n,fun | 9=>9 | 3=>3 | n=>n,fun | n=>n⟩
theorem Tryz.lays106:Go.Proofs.Lays.n106 Tryz.prog Tryz.lays106_ren:={
 mixed:=by kernel_rfl
 f106:=Tryz.func216.trans (adQ)
 f213:=Tryz.func299.trans (adQ)
 f265:=Tryz.func346.trans (adQ)
 t3:=Tryz.underlying3
 a3:=Tryz.isAgg3
 z3:=Tryz.sizeOf3
 v3:=Tryz.zeroValue3
 t9:=Tryz.underlying9
 a9:=Tryz.isAgg9
 z9:=Tryz.sizeOf9
 v9:=Tryz.zeroValue9 }
open Go.RowKit in
theorem Tryz.strings_Compare(a b:ByteArray)(w:World) :
 Calls Tryz.prog 216 #[.string a,.string b] w λe w'=>e = .returned (.int .i64 (Lib.compareBytes a.data.toList b.data.toList))/\w'=w:=Any.strings_Compare Tryz.lays106 a b w
end Go.Proofs
namespace Go.Proofs.YtfnopgdcaanaiaaGreatDoor
open Go.Proofs.Tryz
namespace D
open Go.RowKit Go.Shelf
attribute [local go_sem] Oper.semAt_some
def pK(W:World)(lm lr:Nat)(rem:List (List UInt8)):Prop:=
 ∃ (more:Bool) (r:ByteArray),Boxed W lm 4 (.bool more)/\Boxed W lr 9 (.string r)/\r.size<=140737488355328/\rem=if more then (Np.aT r.data.toList).reverse else []
theorem pK.it{B:Nat}{S:Nat->Prop}{W W':World}{lm lr:Nat}{rem:List (List UInt8)}(h:pK W lm lr rem)(hs:ItStep B S W W')(h1:S lm)(h2:S lr):pK W' lm lr rem:=by
 obtain⟨more,r,b1,b2,h3,h4⟩:=h;exact⟨more,r,fL b1 hs h1,fL b2 hs h2,h3,h4⟩
def ER(W:World)(lm lr:Nat)(rem:List (List UInt8))(e:Ending)(W':World):Prop:=
 (rem = []/\e = .returned (.tuple #[.string ⟨#[]⟩,.bool false])/\W'=W)\/
 ∃ x rest,rem=x::rest/\e = .returned (.tuple #[ay x,.bool true])/\pK W' lm lr rest/\∃ b u,(b=lm\/b=lr)/\W'=W.setCell ⟨b,0,none⟩ u
theorem WN(lm lr:Nat)(hne:lm≠lr)(rem:List (List UInt8))(w:World)(h:pK w lm lr rem) :
 Calls prog 297 #[.pointer (some ⟨lm,0,none⟩),.pointer (some ⟨lr,0,none⟩)] w (ER w lm lr rem):=by
 obtain⟨more,r,b1,b2,h3,h4⟩:=h;have HR:=jq h4;clear h4;have c1:=b1.cell;have c2:=b2.cell;have f1:=b1.frozen;have f2:=b2.frozen
 cases more with
 | false=>
  go_enter func297,ntmps297;go_wp2_with fail;refine bodyPost_ret (v:=.tuple #[.string ⟨#[]⟩,.bool false]) (by simp[results,results297,go_sem]) rfl ?_;exact .inl ⟨HR.out,rfl,rfl⟩
 | true=>
  go_enter func297,ntmps297;go_wp2_with fail;refine (GO _ h3 _ (by decide) (by decide) _).mono ?_;rintro e w' ⟨q,hq,rfl,rfl⟩;rcases hq with ⟨rfl,fw⟩ | ⟨a,b,fO,kx,rfl⟩
  ·have bd:Np.aT r.data.toList = [r.data.toList]:=Np.vX fw;have HS:=jq bd;clear bd fw;go_wp2_with fail;refine bodyPost_ret (v:=.tuple #[.string r,.bool true]) (by simp[results,results297,go_sem]) rfl ?_;refine .inr ⟨r.data.toList,[],by rw[HR.out,Qb trivial,HS.out];rfl,rfl,⟨false,r,b1.set _,bK b2 (by simpa using hne.symm) _,h3,rfl⟩,lm,_,.inl rfl,rfl⟩
  ·have kF:a.length+1+b.length=r.size:=by rw[<-aX,fO];simp;omega
   have bd:Np.aT r.data.toList=Np.aT a ++ [b]:=by rw[fO];exact (Np.Ak a b).trans (by rw[Np.vX kx])
   have qs:(r.extract (a.length+1) r.size).data.toList=b:=by rw[BG,fO];simp
   have oO:(r.extract 0 a.length).data.toList=a:=by rw[BH,fO];simp
   have EL:Hid (r.extract (a.length+1) r.size=⟨b.toArray⟩):=jq (jD (by rw[qs]));have Jo:=jq oO;have HS:=jq bd;clear bd qs oO fO kx;have jW:a.length<=140737488355328:=by omega
   have KX:a.length+1<=r.size:=by omega
   have afX:(a.length:Int)+1<=(r.size:Int):=by omega
   clear kF;go_wp2_with fail;refine bodyPost_ret (v:=.tuple #[.string (r.extract (a.length+1) r.size),.bool true]) (by simp[results,results297,go_sem]) rfl ?_;refine .inr ⟨b,(Np.aT a).reverse,by rw[HR.out,Qb trivial,HS.out];simp,by rw[EL.out],⟨true,r.extract 0 a.length,bK b1 (by simpa using hne) _,b2.set _,by rw[<-aX,Jo.out];omega,by rw[Jo.out];rfl⟩,lr,_,.inr rfl,rfl⟩
theorem XF(t:ByteArray)(ht:t.size<=140737488355328)(w:World) :
 Calls prog 214 #[.string t] w λe w'=>e = .returned (.func (.func 297) #[] #[.pointer (some ⟨w.heap.size+1,0,none⟩),.pointer (some ⟨w.heap.size,0,none⟩)])/\
  pK w' (w.heap.size+1) w.heap.size (Np.back t.data.toList)/\Below w.heap.size w w'/\w'.heap.size=w.heap.size+2:=by
 have b0:=Boxed.new w 9 (.string t);have hb:∀ o o',Below w.heap.size w ((w.alloc o).alloc o'):=λo o'=>((vQ _ w).alloc (bQ _) _).alloc (by simp) _;by_cases he:t.data.toList = [46]
 ·have fT:(t.toList == [46])=true:=by rw[dQ,he];rfl
  have b1:=Boxed.new (w.alloc (.cells #[.string t] 9)) 4 (.bool false);rw[World.size_alloc] at b1;have HB:Hid (Np.back t.data.toList = []):=jq (by simp[Np.back,he]);clear he;go_enter func214,ntmps214;go_wp2_with fail;go_ret;exact⟨rfl,⟨false,t,b1,b0.alloc _,ht,by rw[HB.out];rfl⟩,hb _ _,by simp⟩
 ·have fT:(t.toList == [46])=false:=by rw[dQ];simpa using he
  have b1:=Boxed.new (w.alloc (.cells #[.string t] 9)) 4 (.bool true);rw[World.size_alloc] at b1;have HB:Hid (Np.back t.data.toList=(Np.aT t.data.toList).reverse):=jq (by simp[Np.back,he]);clear he;go_enter func214,ntmps214;go_wp2_with fail;go_ret;exact⟨rfl,⟨true,t,b1,b0.alloc _,ht,by rw[HB.out];rfl⟩,hb _ _,by simp⟩
theorem RH:∀ a b:List UInt8,Lib.compareBytes a b=Np.bX a b:=by
 intro a
 induction a with
 | nil=>
  intro b
  cases b with
  | nil=>rfl
  | cons y b=>simp[Lib.compareBytes,Np.bX,Op.bytesLess]
 | cons x a ih=>
  intro b
  cases b with
  | nil=>simp[Lib.compareBytes,Np.bX,Op.bytesLess]
  | cons y b=>
   rw[Lib.compareBytes,ih b];by_cases h1:x<y
   ·simp[Np.bX,Op.bytesLess,h1]
   ·by_cases h2:y<x
    ·have h3:¬ x=y:=λe=>by subst e;exact h1 h2
     simp[Np.bX,Op.bytesLess,h1,h2,h3]
    ·have h3:x=y:=by
      apply UInt8.toNat_inj.1;simp only[UInt8.lt_iff_toNat_lt] at h1 h2;omega
     subst h3;simp[Np.bX,Op.bytesLess,h1]
theorem Y5(s t:ByteArray)(w:World) :
 Calls prog 216 #[.string s,.string t] w λe w'=>e = .returned (.int .i64 (Np.bX s.data.toList t.data.toList))/\w=w':=
 (Tryz.strings_Compare s t w).mono λe w' ⟨he,hw⟩=>⟨by rw[he,RH],hw.symm⟩
def Dx(g lm lr l8:Nat)(S:Nat->Prop):Prop:=∀ k,S k↔k=g\/k=g+1\/k=lm\/k=lr\/k=l8
def Dw(w:World)(g lm lr l8:Nat)(fv:Value)(m n:List UInt8)(pre:List (List UInt8))(S:Nat->Prop)(W:World):Prop:=
 Dx g lm lr l8 S/\Boxed W g 3 (.int .i64 0)/\Boxed W (g+1) 37 (.int .i64 0)/\Boxed W l8 273 fv/\
 (∃ rem,pK W lm lr rem/\∀ rest,Np.back m=pre++rest->Np.lW (Np.back m) (Np.back n)=Np.lW rest rem)/\Below w.heap.size w W
def Dy(w:World)(g lm lr l8:Nat)(m n:List UInt8)(c:Code)(_:List (List UInt8))(S:Nat->Prop)(W:World):Prop:=
 c = .ret/\Dx g lm lr l8 S/\Boxed W g 3 (.int .i64 (Np.lW (Np.back m) (Np.back n)))/\Boxed W (g+1) 37 (.int .i64 0)/\Below w.heap.size w W
theorem J4(w:World)(g lm lr l8:Nat)(fv:Value)(m n:List UInt8)(B:Nat)(hB:w.heap.size<=B):eq B (Dw w g lm lr l8 fv m n):=by
 rintro s S W W' ⟨hS,h1,h2,h3,⟨rem,h4,h5⟩,h6⟩ av;exact⟨hS,fL h1 av ((hS _).2 (.inl rfl)),fL h2 av ((hS _).2 (.inr (.inl rfl))),fL h3 av ((hS _).2 (.inr (.inr (.inr (.inr rfl))))),
  ⟨rem,h4.it av ((hS _).2 (.inr (.inr (.inl rfl)))) ((hS _).2 (.inr (.inr (.inr (.inl rfl))))),h5⟩,qV h6 av hB (bQ _)⟩
theorem RI(w:World)(g lm lr l8:Nat)(m n:List UInt8)(B:Nat)(hB:w.heap.size<=B)(c:Code):eq B (Dy w g lm lr l8 m n c):=by
 rintro s S W W' ⟨hc,hS,h1,h2,h6⟩ av;exact⟨hc,hS,fL h1 av ((hS _).2 (.inl rfl)),fL h2 av ((hS _).2 (.inr (.inl rfl))),qV h6 av hB (bQ _)⟩
theorem ER.rd{W W':World}{lm lr:Nat}{rem:List (List UInt8)}{e:Ending}(h:ER W lm lr rem e W'):(rem = []/\e = .returned (.tuple #[.string ⟨#[]⟩,.bool false])/\W'=W)\/
 ∃ x rest,rem=x::rest/\e = .returned (.tuple #[ay x,.bool true])/\pK W' lm lr rest/\(∀ S:Nat->Prop,S lm->S lr->RdStep S W W')/\(∀ b t v,b≠lm->b≠lr->Boxed W b t v->Boxed W' b t v)/\(∀ (n:Nat) (w:World),n<=lm->n<=lr->Below n w W->Below n w W'):=by
 rcases h with h | ⟨x,rest,h1,h2,h3,b,u,hb,rfl⟩
 ·exact .inl h
 ·refine .inr ⟨x,rest,h1,h2,h3,λS s1 s2=>?_,λb' t v n1 n2 hv=>bK hv (by rcases hb with rfl | rfl <;> assumption) _,λn w n1 n2 hB=>hB.setCell (p:=⟨b,0,none⟩) (by rcases hb with rfl | rfl <;> assumption) _⟩;exact RdStep.setCell (RdStep.refl S W) (.inl (by rcases hb with rfl | rfl <;> assumption)) _
theorem J8{w:World}{lm lr l8:Nat}{fv:Value}{m n:List UInt8}{pre:List (List UInt8)}{S:Nat->Prop}{W W3:World}{a:Act}{v0 v1:Value}{q:Int}(hS:Dx w.heap.size lm lr l8 S)
 (hr:RdStep S W W3) (aa:∀ k,S k->k<W.heap.size) (c0:Boxed W3 w.heap.size 3 v0) (c1:Boxed W3 (w.heap.size+1) 37 v1) (hB:Below w.heap.size w W3) (hv:Np.lW (Np.back m) (Np.back n)=q) :
 lV (Dw w w.heap.size lm lr l8 fv m n) (Dy w w.heap.size lm lr l8 m n) pre S W .ret a ((W3.setCell ⟨w.heap.size,0,none⟩ (.int .i64 q)).setCell ⟨w.heap.size+1,0,none⟩ (.int .i64 0)):=
 ⟨S,(hr.setCell (.inl ((hS _).2 (.inl rfl))) _).setCell (.inl ((hS _).2 (.inr (.inl rfl)))) _,λ_ e=>.inl e,λk e=>by have:=aa k e;have:=hr.size;simp[World.setCell];omega,rfl,hS,
  by rw[hv];exact bK (c0.set _) (by simp) _,(bK c1 (by simp) _).set _,(hB.setCell (bQ _) _).setCell (by simp) _⟩
def cmpVal(a b:List UInt8):Value:=if Np.aD a&&Np.aD b then .tuple #[.int .i64 (Np.aH a b),.int .i64 0] else .tuple #[.int .i64 0,.int .i64 11]
theorem compare_any(a b:ByteArray)(ha:a.size<=140737488355328)(hb:b.size<=140737488355328)(w:World) :
 Calls prog 137 #[.string a,.string b] w λe w'=>e = .returned (cmpVal a.data.toList b.data.toList)/\Below w.heap.size w w':=by
 refine (callsIn_wide (n:=0)).1 ?_;refine callsIn_of_wp_marks func137 rfl trivial ?_ rfl;simp only[ntmps137,List.size_toArray,List.length_cons,List.length_nil,Nat.reduceAdd,Nat.reduceSub,Array.replicate_succ,Array.replicate_zero,List.push_toArray,List.append_toArray,List.nil_append,List.cons_append];have b0:=Boxed.new w 3 (.int .i64 0);have b1:=Boxed.new (w.alloc (.cells #[.int .i64 0] 3)) 37 (.int .i64 0);rw[World.size_alloc] at b1;replace b0:=b0.alloc (.cells #[.int .i64 0] 37);have dV:Below w.heap.size w ((w.alloc (.cells #[.int .i64 0] 3)).alloc (.cells #[.int .i64 0] 37)):=((vQ _ w).alloc (bQ _) _).alloc (by simp) _;gi_wp2_with fail;refine⟨trivial,rfl,?_⟩;refine (callsIn_wide.2 (valid_any a ha _)).mono ?_;rintro e w1 ⟨rfl,an⟩;replace b0:=bB b0 an (by simp;omega);replace b1:=bB b1 an (by simp);replace dV:=dV.trans (an.mono (by simp;omega));clear an;have pS:∀ (W:World) (tmps:Array Value),Boxed W w.heap.size 3 (.int .i64 0)->Boxed W (w.heap.size+1) 37 (.int .i64 11)->Below w.heap.size w W->(Np.aD a.data.toList&&Np.aD b.data.toList)=false->
  tmps[4]?=some (.pointer (some ⟨w.heap.size,0,none⟩))->tmps[5]?=some (.pointer (some ⟨w.heap.size+1,0,none⟩))->
  bodyPostM Fence.wide 0 prog Tryz.f137 (λe w'=>e = .returned (cmpVal a.data.toList b.data.toList)/\Below w.heap.size w w') .ret { tmps:=tmps,defers:=[] } W:=λW tmps c0 c1 hB hv t4 t5=>by
  have d0:=c0.cell;have d1:=c1.cell;exact lY (v:=.tuple #[.int .i64 0,.int .i64 11]) (by simp[results,results137,go_sem,d0,d1,t4,t5]) ⟨by rw[cmpVal,hv];rfl,hB⟩
 have uj:=jq pS;clear pS;have c0:=b0.cell;have c1:=b1.cell;have f0:=b0.frozen;have f1:=b1.frozen
 cases va:Np.aD a.data.toList with
 | false=>
  gi_wp2_with fail;refine⟨trivial,?_⟩;gi_wp2_with fail;refine uj.out _ _ (bK (b0.set _) (by simp) _) ((bK b1 (by simp) _).set _) ((dV.setCell (bQ _) _).setCell (by simp) _) (by rw[va];rfl) rfl rfl
 | true=>
  have VA:=jq va;clear va c0 c1 f0 f1;gi_wp2_with fail;refine⟨trivial,rfl,?_⟩;refine (callsIn_wide.2 (valid_any b hb _)).mono ?_;rintro e w2 ⟨rfl,ab⟩;have bd:w.heap.size+1<w1.heap.size:=b1.lt;replace b0:=bB b0 ab (by omega);replace b1:=bB b1 ab bd;replace dV:=dV.trans (ab.mono (by omega));have fU:=ab.size;clear ab;have c0:=b0.cell;have c1:=b1.cell;have f0:=b0.frozen;have f1:=b1.frozen
  cases vb:Np.aD b.data.toList with
  | false=>
   gi_wp2_with fail;refine uj.out _ _ (bK (b0.set _) (by simp) _) ((bK b1 (by simp) _).set _) ((dV.setCell (bQ _) _).setCell (by simp) _) (by rw[vb,Bool.and_false]) rfl rfl
  | true=>
   have VV:Hid ((Np.aD a.data.toList&&Np.aD b.data.toList)=true):=jq (by rw[VA.out,vb];rfl);clear vb VA uj;by_cases fO:a.data.toList=b.data.toList
   ·have Tl:(a.toList == b.toList)=true:=by rw[dQ,dQ,fO];simp
    gi_wp2_with fail;have d0:=(bK (b0.set (.int .i64 0)) (p:=⟨w.heap.size+1,0,none⟩) (by simp) (.int .i64 0)).cell;have d1:=((bK b1 (p:=⟨w.heap.size,0,none⟩) (by simp) (.int .i64 0)).set (.int .i64 0)).cell;exact lY (v:=.tuple #[.int .i64 0,.int .i64 0]) (by simp[results,results137,go_sem,d0,d1]) ⟨by rw[cmpVal,VV.out,fO];simp[Np.aH],(dV.setCell (bQ _) _).setCell (by simp) _⟩
   ·have Tl:(a.toList == b.toList)=false:=by rw[dQ,dQ];simpa using fO
    have HV:Hid (cmpVal a.data.toList b.data.toList = .tuple #[.int .i64 (Np.lW (Np.back a.data.toList) (Np.back b.data.toList)),.int .i64 0]):=jq (by rw[cmpVal,VV.out];simp[Np.aH,fO]);clear fO;gi_wp2_with fail;refine⟨trivial,rfl,?_⟩;refine (callsIn_wide.2 (XF b hb _)).mono ?_;rintro e w3 ⟨rfl,vC,ah,cR⟩;have xr:=jq cR;clear cR;replace b0:=bB b0 ah (by omega);replace b1:=bB b1 ah (by omega);replace dV:=dV.trans (ah.mono (by omega));clear ah;have hl:=dV.size;have b8:=Boxed.new w3 273 (.func (.func 297) #[] #[.pointer (some ⟨w2.heap.size+1,0,none⟩),.pointer (some ⟨w2.heap.size,0,none⟩)]);replace b0:=b0.alloc (.cells #[.func (.func 297) #[] #[.pointer (some ⟨w2.heap.size+1,0,none⟩),.pointer (some ⟨w2.heap.size,0,none⟩)]] 273);replace b1:=b1.alloc (.cells #[.func (.func 297) #[] #[.pointer (some ⟨w2.heap.size+1,0,none⟩),.pointer (some ⟨w2.heap.size,0,none⟩)]] 273);replace vC:pK (w3.alloc (.cells #[.func (.func 297) #[] #[.pointer (some ⟨w2.heap.size+1,0,none⟩),.pointer (some ⟨w2.heap.size,0,none⟩)]] 273)) (w2.heap.size+1) w2.heap.size (Np.back b.data.toList):=vC.it (B:=w3.heap.size) (S:=λ_=>True) (qy _) trivial trivial;replace dV:=dV.alloc dV.size (.cells #[.func (.func 297) #[] #[.pointer (some ⟨w2.heap.size+1,0,none⟩),.pointer (some ⟨w2.heap.size,0,none⟩)]] 273);clear c0 c1 f0 f1;have n8:=Boxed.new w3 273 .nilFunc;have n8c:=n8.cell;have n8f:=n8.frozen;gi_wp2_with fail;clear n8 n8c n8f;have hEG:=enters_of func297 (by kernel_rfl) rfl;have amX:w.heap.size+1<w2.heap.size:=by omega
    have cD:w3.heap.size=w2.heap.size+2:=xr.out;refine AA (n₀:=w.heap.size) (w0:=w) (first:=#[.string a]) (captured:=#[]) (gf:=215) rfl (enters_of func215 (by kernel_rfl) rfl) (mk:=λy=>#[.string a,y]) (λ_=>rfl)
     (Bz a ha _ w) dV dV.size (λ_=>rfl) (Dw w w.heap.size (w2.heap.size+1) w2.heap.size w3.heap.size (.func (.func 297) #[] #[.pointer (some ⟨w2.heap.size+1,0,none⟩),.pointer (some ⟨w2.heap.size,0,none⟩)]) a.data.toList b.data.toList)
     (Dy w w.heap.size (w2.heap.size+1) w2.heap.size w3.heap.size a.data.toList b.data.toList)
     (J4 _ _ _ _ _ _ _ _ _ dV.size) (λc=>RI _ _ _ _ _ _ _ _ dV.size c)
     (λk=>k=w.heap.size\/k=w.heap.size+1\/k=w2.heap.size+1\/k=w2.heap.size\/k=w3.heap.size) (by intro k h;omega) (by intro k h;simp;omega)
     ⟨λ_=>Iff.rfl,b0,b1,b8,⟨_,vC,λrest h=>by rw[h];rfl⟩,dV⟩ ?round ?done ?stop
    case round=>
     rintro l0 pre x S W aU hI eW;clear cD;gi_wp2;refine⟨S,RdStep.refl _ _,λk e=>.inl e,eW,?_⟩;intro l W₂ av;obtain⟨hS,c0,c1,c8,⟨rem,hp,zq⟩,hB⟩:=J4 w w.heap.size _ _ _ _ _ _ _ dV.size pre S W W₂ hI av;have c8c:=c8.cell;have eB:∀ k,S k->k<W₂.heap.size:=λk e=>lQ (eW k e) av.size;have hx:x∈Np.back a.data.toList:=aU.subset (by simp);have qu:x.length<=140737488355328:=by have:=Np.By hx;rw[aX] at this;omega
     obtain⟨rest,qn⟩:=aU;have iR:=zq (x::rest) (by rw[<-qn];simp);have HR:=jq qn;have HG:=jq iR;clear qn iR zq hx hI av b0 b1 b8 vC;gi_wp2_with fail;refine⟨trivial,rfl,?_⟩;refine (CallsIn.inRound l (callsIn_wide.2 (WN (w2.heap.size+1) w2.heap.size (by omega) rem _ hp))).mono ?_;intro e W3 hP;rcases hP.rd with ⟨nV,rfl,rfl⟩ | ⟨y,rem',nV,rfl,hp',aA,eN,bq⟩
     ·have c0c:=c0.cell;have c1c:=c1.cell;have c0f:=c0.frozen;have c1f:=c1.frozen;have sM:=jq nV;clear nV hP;gi_wp2_with fail;exact J8 hS (RdStep.refl S _) eB c0 c1 hB (by rw[HG.out,sM.out];rfl)
     ·have sM:=jq nV;replace c0:=eN _ _ _ (by omega) (by omega) c0;replace c1:=eN _ _ _ (by omega) (by omega) c1;replace c8:=eN _ _ _ (by have:=xr.out;omega) (by have:=xr.out;omega) c8;have Gl:=aA S ((hS _).2 (.inr (.inr (.inl rfl)))) ((hS _).2 (.inr (.inr (.inr (.inl rfl)))));have hB':=bq w.heap.size w (by omega) (by omega) hB;have c0c:=c0.cell;have c1c:=c1.cell;have c0f:=c0.frozen;have c1f:=c1.frozen;clear nV hP aA eN bq c8c hp hB;have iR:Np.lW (Np.back a.data.toList) (Np.back b.data.toList)=if Np.bX x y≠0 then Np.bX x y else Np.lW rest rem':=by rw[HG.out,sM.out];rfl
      have fD:=jq iR;clear iR HG;have bE:=Y5 ⟨x.toArray⟩ ⟨y.toArray⟩ W3;by_cases hc:Np.bX x y=0
      ·have db:(Np.bX x y != 0)=false:=by simp[hc]
       have HC:=jq hc;clear hc;gi_wp2_with (refine⟨trivial,rfl,?_⟩;gi_at_call 216;refine (CallsIn.inRound l (callsIn_wide.2 bE)).mono ?_;rintro e w' ⟨rfl,rfl⟩);refine⟨S,Gl,λ_ e=>.inl e,λk e=>by have:=eB k e;have:=Gl.size;omega,hS,c0,c1,c8,⟨rem',hp',λr hr=>?_⟩,hB'⟩
       have:r=rest:=List.append_cancel_left (hr.symm.trans HR.out.symm)
       rw[fD.out,Qc (λh=>h HC.out),this]
      ·have db:(Np.bX x y != 0)=true:=by simpa using hc
       have HC:=jq hc;clear hc;gi_wp2_with (refine⟨trivial,rfl,?_⟩;gi_at_call 216;refine (CallsIn.inRound l (callsIn_wide.2 bE)).mono ?_;rintro e w' ⟨rfl,rfl⟩);exact J8 hS Gl eB c0 c1 hB' (by rw[fD.out,Qb HC.out])
    case done=>
     rintro D S W hD ew aM ⟨hS,c0,c1,c8,⟨rem,hp,zq⟩,hB⟩ hK;clear cD b0 b1 b8 vC;have c0c:=c0.cell;have c1c:=c1.cell;have c0f:=c0.frozen;have c1f:=c1.frozen;have pY:Np.lW (Np.back a.data.toList) (Np.back b.data.toList) = -1:=by rw[zq [] (by simp)];rfl
     have HE:=jq pY;have pO:w.heap.size≠D:=λe=>ew ((hS _).2 (.inl e.symm));have pR:w.heap.size+1≠D:=λe=>ew ((hS _).2 (.inr (.inl e.symm)));have Fp:w.heap.size<=D:=by have:=dV.size;omega
     clear pY zq hp c8;gi_wp2;have hK':((W.setCell ⟨w.heap.size,0,none⟩ (.int .i64 (-1))).setCell ⟨w.heap.size+1,0,none⟩ (.int .i64 0)).heap[D]?=some (.deferred (some [])):=
      (wQ _ _ _ _ (by simpa using pR.symm)).trans ((wQ _ _ _ _ (by simpa using pO.symm)).trans hK)
     have d0:=(nF (bK (c0.set (.int .i64 (-1))) (p:=⟨w.heap.size+1,0,none⟩) (by simp) (.int .i64 0)) pO (.deferred none)).cell;have d1:=(nF ((bK c1 (p:=⟨w.heap.size,0,none⟩) (by simp) (.int .i64 (-1))).set (.int .i64 0)) pR (.deferred none)).cell;exact mN hK' (v:=.tuple #[.int .i64 (-1),.int .i64 0]) (by simp[results,results137,go_sem,d0,d1]) ⟨by rw[HV.out,HE.out],mK ((hB.setCell (bQ _) _).setCell (by simp) _) Fp _⟩
    case stop=>
     rintro D c pre S W hD ew aM gD ⟨rfl,hS,c0,c1,hB⟩ hK;clear cD b0 b1 b8 vC;have pO:w.heap.size≠D:=λe=>ew ((hS _).2 (.inl e.symm));have pR:w.heap.size+1≠D:=λe=>ew ((hS _).2 (.inr (.inl e.symm)));have Fp:w.heap.size<=D:=by have:=dV.size;omega
     gi_wp2;have d0:=(nF c0 pO (.deferred none)).cell;have d1:=(nF c1 pR (.deferred none)).cell;exact mN hK (v:=.tuple #[.int .i64 (Np.lW (Np.back a.data.toList) (Np.back b.data.toList)),.int .i64 0]) (by simp[results,results137,go_sem,d0,d1]) ⟨by rw[HV.out],mK hB Fp _⟩
end D
namespace Np
inductive Res (α:Type) where
 | ok (a:α) (r:List Tok)
 | err (e:Int) (r:List Tok)
deriving DecidableEq
structure Diag where
 err:Int
 pos:Int
deriving DecidableEq
def okR:List (List UInt8)->Bool
 | []=>true
 | [x]=>bP x||x == [42]
 | x::y::r=>bP x&&okR (y::r)
theorem Y2:bP [42]=false:=by decide
theorem SM(xs:List (List UInt8))(n:Nat):eu xs n true=xs.isEmpty:=by cases xs <;> simp[eu]
theorem SL:∀ (xs:List (List UInt8)) (n:Nat),n<=8->eu xs n false=(decide (n+xs.length<=8)&&okR xs):=by
 intro xs
 induction xs with
 | nil=>intro n hn;simp[eu,okR,hn]
 | cons x xs ih=>
  intro n hn;rw[eu];by_cases h8:8<n+1
  ·rw[Qb (by simp;omega),tQ (by simp;omega)];rfl
  ·rw[Qc (by simp;omega)];by_cases hx:x = [42]
   ·subst hx;rw[Qb rfl,SM]
    cases xs with
    | nil=>simp[okR];omega
    | cons y r=>simp[okR,Y2]
   ·rw[Qc hx];by_cases hl:bP x=true
    ·rw[Qb hl,ih (n+1) (by omega)]
     cases xs with
     | nil=>simp[okR,hl]
     | cons y r=>simp only[okR,hl,Bool.true_and,List.length_cons];congr 1;congr 1;apply propext;omega
    ·rw[Qc hl]
     cases xs with
     | nil=>simp[okR,hl,hx]
     | cons y r=>simp[okR,hl]
def rR:List (List UInt8)->Bool
 | []=>true
 | h::t=>(bP h||h == [42])&&t.all bP
theorem W5:∀ (a:List (List UInt8)) (h:List UInt8),okR (a ++ [h])=(a.all bP&&(bP h||h == [42])):=by
 intro a h
 induction a with
 | nil=>simp[okR]
 | cons x a ih=>
  cases a with
  | nil=>simp[okR]
  | cons y r=>
   simp only[List.cons_append,okR] at ih |-;rw[ih];simp[Bool.and_assoc]
theorem W4(l:List (List UInt8)):okR l.reverse=rR l:=by
 cases l with
 | nil=>rfl
 | cons h t=>rw[List.reverse_cons,W5,rR,List.all_reverse,Bool.and_comm]
theorem Oy(s:List UInt8):aD s=if s = [46] then true else if 60<s.length then false else rR (aT s)&&decide ((aT s).length<=8):=by
 unfold aD;split
 ·rfl
 ·split
  ·rfl
  ·rw[SL _ 0 (by omega),W4,List.length_reverse,Bool.and_comm];simp
def iW:List (List UInt8)->List UInt8
 | []=>[]
 | [x]=>x
 | x::y::r=>x++46::iW (y::r)
theorem VU(c:UInt8)(x:List UInt8)(xs:List (List UInt8)):iW ((c::x)::xs)=c::iW (x::xs):=by
 cases xs <;> simp[iW]
theorem vJ(s:List UInt8):iW (aT s)=s:=by
 induction s with
 | nil=>rfl
 | cons c r ih=>
  rw[aT];have hne:=o8 r
  cases hr:aT r with
  | nil=>exact absurd hr hne
  | cons x xs=>
   rw[hr] at ih;split
   ·rename_i hc;subst hc;rw[iW,ih];rfl
   ·rw[VU,ih]
theorem VT:∀ (l m:List (List UInt8)),l≠[]->m≠[]->iW (l++m)=iW l++46::iW m:=by
 intro l
 induction l with
 | nil=>intro m h;exact absurd rfl h
 | cons x l ih=>
  intro m _ hm
  cases l with
  | nil=>
   cases m with
   | nil=>exact absurd rfl hm
   | cons y m=>simp[iW]
  | cons y l=>
   have:=ih m (by simp) hm
   simp only[List.cons_append,iW] at this |-;rw[this];simp
def dS(s:List UInt8):List (List UInt8):=if s = [46] then [] else aT s
theorem zU(s:List UInt8):(dS s).reverse=back s:=by
 unfold dS back;split <;> rfl
theorem xO{a b:List UInt8}(h:back a=back b):a=b:=by
 unfold back at h;by_cases ha:a = [46]
 ·by_cases hb:b = [46]
  ·rw[ha,hb]
  ·rw[Qb ha,Qc hb] at h
   have:=o8 b
   exact absurd (List.reverse_eq_nil_iff.1 h.symm) this
 ·by_cases hb:b = [46]
  ·rw[Qb hb,Qc ha] at h;exact absurd (List.reverse_eq_nil_iff.1 h) (o8 a)
  ·rw[Qc ha,Qc hb] at h
   have:=List.reverse_inj.1 h
   rw[<-vJ a,this,vJ]
def inL(l m:List (List UInt8)):Bool:=decide (m.length<=l.length)&&(l.drop (l.length - m.length) == m)
theorem Mj{l m:List (List UInt8)} : inL l m=true↔∃ p,l=p++m:=by
 unfold inL;simp only[Bool.and_eq_true,Qa,beq_iff_eq];constructor
 ·rintro⟨h1,h2⟩;refine⟨l.take (l.length - m.length),?_⟩;rw[<-h2,List.length_drop]
  conv => lhs;rw[<-List.take_append_drop (l.length - m.length) l]
  congr 2;omega
 ·rintro⟨p,rfl⟩;refine⟨by simp,?_⟩;rw[List.length_append,Nat.add_sub_cancel,List.drop_left]
theorem zM{s z:List UInt8}(hz:z≠[]):inL (dS s) (dS z)=aZ s z:=by
 rw[Bool.eq_iff_iff,Mj];unfold aZ dS;simp only[Bool.or_eq_true,Bool.and_eq_true,beq_iff_eq,Qa];by_cases h1:z = [46]
 ·rw[Qb h1];exact⟨λ_=>.inl (.inr h1),λ_=>⟨_,(List.append_nil _).symm⟩⟩
 ·rw[Qc h1];by_cases h2:s = [46]
  ·rw[Qb h2];constructor
   ·rintro⟨p,hp⟩
    have:=List.append_eq_nil_iff.1 hp.symm
    exact absurd this.2 (o8 z)
   ·rintro ((h | h) | ⟨⟨h3,_⟩,_⟩)
    ·exact absurd (h ▸ h2) h1
    ·exact absurd h h1
    ·subst h2;have h4:z.length<1:=h3;exact absurd (rQ (by omega)) hz
  ·rw[Qc h2];constructor
   ·rintro⟨p,hp⟩;by_cases h0:p = []
    ·subst h0;rw[List.nil_append] at hp;left;left;rw[<-vJ s,hp,vJ]
    ·right;have hs:s=iW p++46::z:=by
      rw[<-vJ s,hp,VT _ _ h0 (o8 z),vJ]
     subst hs;refine⟨⟨by simp;omega,?_⟩,?_⟩
     ·rw[show (iW p++46::z).length - z.length=(iW p ++ [46]).length by simp;omega,show iW p++46::z=(iW p ++ [46])++z by simp,List.drop_left]
     ·rw[show (iW p++46::z).length - z.length - 1=(iW p).length by simp;omega];rw[oQ (bQ _)];simp
   ·rintro ((h | h) | ⟨⟨h3,h4⟩,h5⟩)
    ·exact⟨[],by rw[h];rfl⟩
    ·exact absurd h h1
    ·have hs:s=s.take (s.length - z.length - 1)++46::z:=by
      conv => lhs;rw[<-List.take_append_drop (s.length - z.length - 1) s]
      congr 1;obtain⟨hl,he⟩:=cQ.1 h5;rw[sQ hl,he,show s.length - z.length - 1+1=s.length - z.length by omega,h4]
     refine⟨aT (s.take (s.length - z.length - 1)),?_⟩
     conv => lhs;rw[hs]
     rw[Ak]
def bZ:List (List UInt8)->List (List UInt8)->Int
 | [],[]=>0
 | [],_::_=>-1
 | _::_,[]=>1
 | x::xs,y::ys=>if bX x y≠0 then bX x y else bZ xs ys
theorem sZ(x:List UInt8):bX x x=0:=by
 have:∀ x:List UInt8,Go.Op.bytesLess x x=false:=by
  intro x
  induction x with
  | nil=>rfl
  | cons a x ih=>simp[Go.Op.bytesLess,ih]
 simp[bX,this]
theorem pM{x y:List UInt8}(h:bX x y=0):x=y:=by
 unfold bX at h;split at h
 ·omega
 ·split at h
  ·assumption
  ·omega
theorem MV(l:List (List UInt8)):bZ l l=0:=by
 induction l with
 | nil=>rfl
 | cons x l ih=>rw[bZ,sZ,Qc (by simp),ih]
theorem W8:∀ (l m:List (List UInt8)),l≠m->bZ l m=lW l m:=by
 intro l
 induction l with
 | nil=>
  intro m h
  cases m with
  | nil=>exact absurd rfl h
  | cons y m=>rfl
 | cons x l ih=>
  intro m h
  cases m with
  | nil=>rfl
  | cons y m=>
   rw[bZ,lW];by_cases hc:bX x y≠0
   ·rw[Qb hc,Qb hc]
   ·rw[Qc hc,Qc hc]
    have:=pM (Decidable.not_not.1 hc)
    subst this;exact ih m (λe=>h (by rw[e]))
theorem xT(a b:List UInt8):aH a b=bZ (back a) (back b):=by
 unfold aH;split
 ·rename_i h;rw[h,MV]
 ·rename_i h;exact (W8 _ _ (λe=>h (xO e))).symm
theorem xU(a:List UInt8):aH a a=0:=by simp[aH]
theorem BB{a b:List UInt8}(h:aH a b=0):a=b:=by
 rw[xT] at h;refine xO ?_
 have:∀ l m:List (List UInt8),bZ l m=0->l=m:=by
  intro l
  induction l with
  | nil=>intro m h;cases m with
    | nil=>rfl
    | cons y m=>simp[bZ] at h
  | cons x l ih=>
   intro m h
   cases m with
   | nil=>simp[bZ] at h
   | cons y m=>
    rw[bZ] at h;split at h
    ·rename_i hc;exact absurd h hc
    ·rename_i hc;rw[pM (Decidable.not_not.1 hc),ih m h]
 exact this _ _ h
theorem BC(a b:DSet):fM a b=if aH a.name b.name≠0 then aH a.name b.name else b7 a.type b.type:=by
 unfold fM;by_cases h:a.name=b.name
 ·rw[Qc (by simp[h]),h,xU,Qc (by simp)]
 ·rw[Qb h,Qb (λe=>h (BB e))]
theorem Ro:∀ (x y:List UInt8),Go.Op.bytesLess x y=false->x≠y->Go.Op.bytesLess y x=true:=by
 intro x
 induction x with
 | nil=>intro y h hn;cases y with
   | nil=>exact absurd rfl hn
   | cons b y=>simp[Go.Op.bytesLess] at h
 | cons a x ih=>
  intro y h hn
  cases y with
  | nil=>simp[Go.Op.bytesLess]
  | cons b y=>
   simp only[Go.Op.bytesLess] at h |-;by_cases h1:a<b
   ·simp[h1] at h
   ·by_cases h2:b<a
    ·simp[h2]
    ·have h3:a=b:=by
      apply UInt8.toNat_inj.1;simp only[UInt8.lt_iff_toNat_lt] at h1 h2;omega
     subst h3;simp[h1] at h |-;exact ih y h (λe=>hn (by rw[e]))
theorem uI(x y:List UInt8):(Go.Op.bytesLess x y=true/\bX x y = -1)\/(Go.Op.bytesLess x y=false/\Go.Op.bytesLess y x=true/\x≠y/\bX x y=1)\/(Go.Op.bytesLess x y=false/\Go.Op.bytesLess y x=false/\x=y/\bX x y=0):=by
 cases h:Go.Op.bytesLess x y with
 | true=>exact .inl ⟨rfl,by simp[bX,h]⟩
 | false=>
  by_cases hn:x=y
  ·subst hn;exact .inr (.inr ⟨rfl,h,rfl,sZ x⟩)
  ·exact .inr (.inl ⟨rfl,Ro x y h hn,hn,by simp[bX,h,hn]⟩)
def GP(a b:Datum):Bool:=if a.text≠b.text then Go.Op.bytesLess a.text b.text else if a.n≠b.n then decide (a.n<b.n) else decide (a.m<b.m)
theorem Wn(a b:Datum):GP a b=decide (oC a b<0):=by
 unfold GP oC;rcases uI a.text b.text with ⟨h1,h2⟩ | ⟨h1,_,h3,h2⟩ | ⟨_,_,h3,h2⟩
 ·have hn:a.text≠b.text:=λe=>by rw[e,sZ] at h2;omega
  rw[Qb hn,Qb (by omega),h1,h2];rfl
 ·rw[Qb h3,Qb (by omega),h1,h2];rfl
 ·rw[Qc (show ¬ a.text≠b.text from λe=>e h3),Qc (show ¬ bX a.text b.text≠0 from λe=>e h2)];by_cases h4:a.n=b.n
  ·rw[Qc (show ¬ a.n≠b.n from λe=>e h4)];have h5:b7 a.n b.n=0:=by unfold b7;rw[Qc (by omega),Qc (by omega)]
   rw[Qc (show ¬ b7 a.n b.n≠0 from λe=>e h5)];unfold b7;by_cases h6:a.m<b.m
   ·rw[Qb h6];simp[h6]
   ·by_cases h7:b.m<a.m
    ·rw[Qc h6,Qb h7];simp;omega
    ·rw[Qc h6,Qc h7];simp;omega
  ·rw[Qb (show a.n≠b.n from h4)];by_cases h6:a.n<b.n
   ·have h5:b7 a.n b.n = -1:=by unfold b7;rw[Qb h6]
    rw[h5];simp[h6]
   ·have h5:b7 a.n b.n=1:=by unfold b7;rw[Qc h6,Qb (by omega)]
    rw[h5];simp;omega
structure TO{α:Type}(c:α->α->Int):Prop where
 self:∀ x,c x x=0
 zero:∀ x y,c x y=0->x=y
 anti:∀ x y,c x y<0->0<c y x
 anti':∀ x y,0<c x y->c y x<0
 trans:∀ x y z,c x y<0->c y z<0->c x z<0
theorem TO.lex{α β γ:Type}{c:α->α->Int}{d:β->β->Int}(hc:TO c)(hd:TO d)(f:γ->α)(g:γ->β)(TU:∀ x y,f x=f y->g x=g y->x=y):TO (λx y:γ=>if c (f x) (f y)≠0 then c (f x) (f y) else d (g x) (g y)) where
 self x:=by simp[hc.self,hd.self]
 zero x y h:=by
  by_cases h1:c (f x) (f y)≠0
  ·rw[Qb h1] at h;exact absurd h h1
  ·rw[Qc h1] at h;exact TU x y (hc.zero _ _ (Decidable.not_not.1 h1)) (hd.zero _ _ h)
 anti x y h:=by
  by_cases h1:c (f x) (f y)≠0
  ·rw[Qb h1] at h
   have:=hc.anti _ _ h
   rw[Qb (by omega)];exact this
  ·rw[Qc h1] at h;have e:=hc.zero _ _ (Decidable.not_not.1 h1);rw[e,hc.self,Qc (by simp)];exact hd.anti _ _ h
 anti' x y h:=by
  by_cases h1:c (f x) (f y)≠0
  ·rw[Qb h1] at h
   have:=hc.anti' _ _ h
   rw[Qb (by omega)];exact this
  ·rw[Qc h1] at h;have e:=hc.zero _ _ (Decidable.not_not.1 h1);rw[e,hc.self,Qc (by simp)];exact hd.anti' _ _ h
 trans x y z h k:=by
  by_cases h1:c (f x) (f y)≠0
  ·rw[Qb h1] at h;by_cases h2:c (f y) (f z)≠0
   ·rw[Qb h2] at k
    have:=hc.trans _ _ _ h k
    rw[Qb (by omega)];exact this
   ·have e:=hc.zero _ _ (Decidable.not_not.1 h2);rw[<-e,Qb h1];exact h
  ·rw[Qc h1] at h;have e:=hc.zero _ _ (Decidable.not_not.1 h1);by_cases h2:c (f y) (f z)≠0
   ·rw[Qb h2] at k;rw[e,Qb h2];exact k
   ·rw[Qc h2] at k;rw[e,Qc h2];exact hd.trans _ _ _ h k
theorem TO.of{α β:Type}{c:α->α->Int}(hc:TO c)(f:β->α)(hf:∀ x y,f x=f y->x=y):TO (λx y=>c (f x) (f y)) where
 self _:=hc.self _
 zero _ _ h:=hf _ _ (hc.zero _ _ h)
 anti _ _ h:=hc.anti _ _ h
 anti' _ _ h:=hc.anti' _ _ h
 trans _ _ _ h k:=hc.trans _ _ _ h k
theorem CK:∀ (x y:List UInt8),Go.Op.bytesLess x y=decide (x<y)
 | [],[]=>by simp[Go.Op.bytesLess]
 | _::_,[]=>by simp[Go.Op.bytesLess]
 | [],_::_=>by simp[Go.Op.bytesLess]
 | a::x,b::y=>by
   rw[Go.Op.bytesLess,CK x y];simp only[List.cons_lt_cons_iff];by_cases h1:a<b <;> by_cases h2:a=b <;> by_cases h3:x<y <;> simp[h1,h2,h3]
theorem toS:TO bX where
 self:=sZ
 zero _ _:=pM
 anti x y h:=by
  rcases uI x y with ⟨h1,h2⟩ | ⟨_,_,_,h2⟩ | ⟨_,_,_,h2⟩
  ·rcases uI y x with ⟨h3,h4⟩ | ⟨_,_,_,h4⟩ | ⟨_,_,h5,h4⟩
   ·rw[CK,Qa] at h1 h3;exact absurd h3 (List.lt_asymm h1)
   ·omega
   ·rw[h5,sZ] at h;omega
  ·omega
  ·omega
 anti' x y h:=by
  rcases uI x y with ⟨_,h2⟩ | ⟨_,h1,_,h2⟩ | ⟨_,_,_,h2⟩
  ·omega
  ·simp[bX,h1]
  ·omega
 trans x y z h k:=by
  have e:∀ a b:List UInt8,bX a b<0->a<b:=λa b h=>by
   rcases uI a b with ⟨h1,h2⟩ | ⟨_,_,_,h2⟩ | ⟨_,_,_,h2⟩
   ·rw[CK,Qa] at h1;exact h1
   ·omega
   ·omega
  have:=List.lt_trans (e _ _ h) (e _ _ k)
  unfold bX;rw[CK,Qb (by simpa using this)];omega
theorem toI:TO b7 where
 self x:=by unfold b7;rw[Qc (by omega),Qc (by omega)]
 zero x y h:=by unfold b7 at h;split at h;omega;split at h <;> omega
 anti x y h:=by
  unfold b7 at h |-;split at h
  ·rw[Qc (by omega),Qb (by omega)];omega
  ·split at h <;> omega
 anti' x y h:=by
  unfold b7 at h |-;split at h
  ·omega
  ·split at h
   ·rw[Qb (by omega)];omega
   ·omega
 trans x y z h k:=by
  unfold b7 at h k |-;split at h
  ·split at k
   ·rw[Qb (by omega)];omega
   ·split at k <;> omega
  ·split at h <;> omega
theorem toR:TO bZ:=by
 have hs:=toS;refine⟨MV,?_,?_,?_,?_⟩
 ·intro l
  induction l with
  | nil=>intro m h;cases m with
    | nil=>rfl
    | cons y m=>simp[bZ] at h
  | cons x l ih=>
   intro m h
   cases m with
   | nil=>simp[bZ] at h
   | cons y m=>
    rw[bZ] at h;split at h
    ·rename_i hc;exact absurd h hc
    ·rename_i hc;rw[pM (Decidable.not_not.1 hc),ih m h]
 ·intro l
  induction l with
  | nil=>intro m h;cases m with
    | nil=>simp[bZ] at h
    | cons y m=>simp[bZ]
  | cons x l ih=>
   intro m h
   cases m with
   | nil=>simp[bZ] at h
   | cons y m=>
    rw[bZ] at h |-;split at h
    ·have:=hs.anti _ _ h
     rw[Qb (by omega)];exact this
    ·rename_i hc;have e:=pM (Decidable.not_not.1 hc);subst e;rw[Qc hc];exact ih m h
 ·intro l
  induction l with
  | nil=>intro m h;cases m with
    | nil=>simp[bZ] at h
    | cons y m=>simp[bZ] at h
  | cons x l ih=>
   intro m h
   cases m with
   | nil=>simp[bZ]
   | cons y m=>
    rw[bZ] at h |-;split at h
    ·have:=hs.anti' _ _ h
     rw[Qb (by omega)];exact this
    ·rename_i hc;have e:=pM (Decidable.not_not.1 hc);subst e;rw[Qc hc];exact ih m h
 ·intro l
  induction l with
  | nil=>intro m n h k;cases m with
    | nil=>simp[bZ] at h
    | cons y m=>cases n with
      | nil=>simp[bZ] at k
      | cons z n=>simp[bZ]
  | cons x l ih=>
   intro m n h k
   cases m with
   | nil=>simp[bZ] at h
   | cons y m=>
    cases n with
    | nil=>simp[bZ] at k
    | cons z n=>
     rw[bZ] at h k |-;by_cases hc:bX x y≠0
     ·rw[Qb hc] at h;by_cases hd:bX y z≠0
      ·rw[Qb hd] at k
       have:=hs.trans _ _ _ h k
       rw[Qb (by omega)];exact this
      ·have e:=pM (Decidable.not_not.1 hd);rw[<-e,Qb hc];exact h
     ·rw[Qc hc] at h;have e:=pM (Decidable.not_not.1 hc);by_cases hd:bX y z≠0
      ·rw[Qb hd] at k;rw[e,Qb hd];exact k
      ·rw[Qc hd] at k;rw[e,Qc hd];exact ih m n h k
theorem ej:TO aH:=by
 have:=toR.of back (λ_ _ h=>xO h)
 have e:aH=λx y=>bZ (back x) (back y):=by funext x y;exact xT x y
 rw[e];exact this
def eb(a b:List UInt8×Int):Int:=if aH a.1 b.1≠0 then aH a.1 b.1 else b7 a.2 b.2
theorem wg:TO eb:=ej.lex toI (λd:List UInt8×Int=>d.1) (λd=>d.2) (λ_ _ h k=>Prod.ext h k)
def dP(s:DSet):List UInt8×Int:=(s.name,s.type)
theorem E1(a b:DSet):fM a b=eb (dP a) (dP b):=BC a b
theorem Wm{α:Type}{c:α->α->Int}(h:TO c)(x y z:α):(!decide (c y x<0))=true->(!decide (c z y<0))=true->(!decide (c z x<0))=true:=by
 simp only[Bool.not_eq_true',decide_eq_false_iff_not,Int.not_lt];intro h1 h2;apply Decidable.byContradiction;intro h3;have h4:c z x<0:=by omega
 rcases Int.lt_or_eq_of_le h1 with h5 | h5
 ·have:=h.trans _ _ _ h4 (h.anti' _ _ h5);omega
 ·have:=h.zero _ _ h5.symm;subst this;omega
theorem Wl{α:Type}{c:α->α->Int}(h:TO c)(x y:α):((!decide (c y x<0))||(!decide (c x y<0)))=true:=by
 by_cases h1:c y x<0
 ·have:=h.anti _ _ h1
  have:¬ c x y<0:=by omega
  simp[this]
 ·simp[h1]
theorem nt{s z:List UInt8}(hz:z≠[]):aZ s z=true↔back z <+: back s:=by
 rw[<-zM hz,Mj,<-zU,<-zU];constructor
 ·rintro⟨p,h⟩;exact⟨p.reverse,by rw[h,List.reverse_append]⟩
 ·rintro⟨p,h⟩;refine⟨p.reverse,?_⟩
  have:=Qd List.reverse h
  simpa using this.symm
theorem M8:∀ (c n:List (List UInt8)),c <+: n->bZ c n<=0
 | [],[],_=>by simp[bZ]
 | [],_::_,_=>by simp[bZ]
 | x::c,[],h=>by have:=h.length_le;simp at this
 | x::c,y::n,h=>by
   obtain⟨rfl,h2⟩:=List.cons_prefix_cons.1 h;rw[bZ,sZ,Qc (by simp)];exact M8 c n h2
theorem M7:∀ (c a b:List (List UInt8)),c <+: b->bZ c a<=0->bZ a b<=0->c <+: a
 | [],a,b,_,_,_=>List.nil_prefix
 | x::c,[],b,_,h,_=>by simp[bZ] at h
 | x::c,y::a,[],h,_,_=>by have:=h.length_le;simp at this
 | x::c,y::a,z::b,h,h1,h2=>by
   obtain⟨rfl,h3⟩:=List.cons_prefix_cons.1 h;rw[bZ] at h1 h2;by_cases bF:bX x y=0
   ·have e:=pM bF;subst e;rw[sZ,Qc (by simp)] at h1 h2;exact List.cons_prefix_cons.2 ⟨rfl,M7 c a b h3 h1 h2⟩
   ·rw[Qb bF] at h1
    have:=toS.anti x y (by omega)
    rw[Qb (by omega)] at h2;omega
theorem Dl{s z:List UInt8}(hz:z≠[])(h:aZ s z=true):aH z s<=0:=by
 rw[xT];exact M8 _ _ ((nt hz).1 h)
theorem Hn{c a b:List UInt8}(hc:c≠[])(h:aZ b c=true)(h1:aH c a<=0)(h2:aH a b<=0):aZ a c=true:=by
 rw[xT] at h1 h2;exact (nt hc).2 (M7 _ _ _ ((nt hc).1 h) h1 h2)
theorem Ho{a b c:List UInt8}(hb:b≠[])(hc:c≠[])(h1:aZ a b=true)(h2:aZ b c=true):aZ a c=true:=
 (nt hc).2 (((nt hc).1 h2).trans ((nt hb).1 h1))
theorem Dm(a:List UInt8):aZ a a=true:=by simp[aZ]
theorem Ol{n a b:List UInt8}(ha:a≠[])(hb:b≠[])(h1:aZ n a=true)(h2:aZ n b=true):aZ a b=true\/aZ b a=true:=by
 rcases List.prefix_or_prefix_of_prefix ((nt ha).1 h1) ((nt hb).1 h2) with h | h
 ·exact .inr ((nt ha).2 h)
 ·exact .inl ((nt hb).2 h)
def ik(C:List UInt8->Bool)(n o:List UInt8):Prop:=
 (o = []/\∀ c,C c=true->aZ n c=false)\/(C o=true/\aZ n o=true/\∀ c,C c=true->aZ o c=true->c=o)
theorem ik.unique{C:List UInt8->Bool}(hC:∀ c,C c=true->c≠[]){n a b:List UInt8}(ha:ik C n a)(hb:ik C n b):a=b:=by
 rcases ha with ⟨rfl,ha⟩ | ⟨a1,a2,a3⟩
 ·rcases hb with ⟨rfl,_⟩ | ⟨b1,b2,_⟩
  ·rfl
  ·rw[ha b b1] at b2;cases b2
 ·rcases hb with ⟨rfl,hb⟩ | ⟨b1,b2,b3⟩
  ·rw[hb a a1] at a2;cases a2
  ·rcases Ol (hC a a1) (hC b b1) a2 b2 with h | h
   ·exact (a3 b b1 h).symm
   ·exact b3 a a1 h
theorem ik.above{C:List UInt8->Bool}(hC:∀ c,C c=true->c≠[]){n o c:List UInt8}(h:ik C n o)(hc:C c=true)(hu:aZ n c=true):C o=true/\aZ n o=true/\aZ c o=true:=by
 rcases h with ⟨_,h⟩ | ⟨h1,h2,h3⟩
 ·rw[h c hc] at hu;cases hu
 ·refine⟨h1,h2,?_⟩;rcases Ol (hC o h1) (hC c hc) h2 hu with h | h
  ·rw[h3 c hc h];exact Dm o
  ·exact h
def cZ(C:List UInt8->Bool)(cut n:List UInt8):List UInt8:=
 if (if cut≠[]/\aZ n cut=false then [] else cut) = []/\C n=true then n else if cut≠[]/\aZ n cut=false then [] else cut
theorem Od{C:List UInt8->Bool}{n:List UInt8}(h:∀ c,C c=true->aZ n c=true->c=n):ik C n (if C n=true then n else []):=by
 split
 ·rename_i hn;exact .inr ⟨hn,Dm n,h⟩
 ·rename_i hn;refine .inl ⟨rfl,λc hc=>?_⟩
  cases hu:aZ n c with
  | false=>rfl
  | true=>rw[<-h c hc hu] at hn;exact absurd hc hn
theorem Y3{C:List UInt8->Bool}(hC:∀ c,C c=true->c≠[]){n:List UInt8}(aY:∀ c,C c=true->¬ aH c n<0):ik C n (cZ C [] n):=by
 have h:=Od (n:=n) (λc hc hu=>by
  have h1:=Dl (hC c hc) hu;have h2:=aY c hc;exact BB (by omega))
 have e:cZ C [] n=if C n=true then n else []:=by simp[cZ]
 rw[e];exact h
theorem Y4{C:List UInt8->Bool}(hC:∀ c,C c=true->c≠[]){m cut n:List UInt8}(hm:ik C m cut)(ee:aH m n<=0)(aY:∀ c,C c=true->aH c n<0->aH c m<=0):ik C n (cZ C cut n):=by
 by_cases hcut:cut≠[]/\aZ n cut=true
 ·have e:cZ C cut n=cut:=by simp[cZ,hcut.1,hcut.2]
  rw[e];rcases hm with ⟨h,_⟩ | ⟨h1,_,h3⟩
  ·exact absurd h hcut.1
  ·exact .inr ⟨h1,hcut.2,h3⟩
 ·have ky:∀ c,C c=true->aZ n c=true->c=n:=λc hc hu=>by
   refine Classical.byContradiction λhne=>hcut ?_;have h1:=Dl (hC c hc) hu;have aa:aH c n<0:=by
    rcases Int.lt_or_eq_of_le h1 with h | h
    ·exact h
    ·exact absurd (BB h) hne
   have h2:=Hn (hC c hc) hu (aY c hc aa) ee;obtain⟨a1,_,a3⟩:=hm.above hC hc h2;exact⟨hC _ a1,Ho (hC c hc) (hC _ a1) hu a3⟩
  have h:=Od ky;have e:cZ C cut n=if C n=true then n else []:=by
   unfold cZ;by_cases h0:cut = []
   ·subst h0;simp
   ·have:aZ n cut=false:=by
     cases hu:aZ n cut with
     | false=>rfl
     | true=>exact absurd ⟨h0,hu⟩ hcut
    simp[h0,this]
  rw[e];exact h
structure Jt(C:List UInt8->Bool)(H:List (List UInt8)):Prop where
 cut:∀ h∈H,C h=true/\∀ c,C c=true->aZ h c=true->c=h
 sorted:H.Pairwise λa b=>aH a b<0
theorem Uc{C:List UInt8->Bool}(hC:∀ c,C c=true->c≠[]){H:List (List UInt8)}(hH:Jt C H){n:List UInt8}(aY:∀ h,C h=true->(∀ c,C c=true->aZ h c=true->c=h)->aH h n<=0->h∈H){k:Nat}(hk:k<=H.length)(h1:∀ j (hj:j<H.length),j<k->aH H[j] n<=0)(h2:∀ j (hj:j<H.length),k<=j->0<aH H[j] n) :
 ik C n (if h:0<k/\aZ n (H[k - 1]?.getD [])=true then H[k - 1]?.getD [] else []):=by
 have fw:∀ c,C c=true->aZ n c=true->(∀ d,C d=true->aZ c d=true->d=c)->0<k/\∃ bY:k - 1<H.length,H[k - 1]=c:=λc hc hu ht=>by
  have ee:=Dl (hC c hc) hu;obtain⟨j,hj,rfl⟩:=nQ.1 (aY c hc ht ee);have yS:j<k:=by
   refine Nat.lt_of_not_le λh=>?_
   have:=h2 j hj h
   omega
  refine⟨by omega,by omega,?_⟩;rcases Nat.lt_or_ge j (k - 1) with h | h
  ·have h3:=List.pairwise_iff_getElem.1 hH.sorted j (k - 1) hj (by omega) h;have h4:=h1 (k - 1) (by omega) (by omega);have h5:=Hn (hC _ hc) hu (by omega) h4;have h6:=(hH.cut _ (List.getElem_mem (show k - 1<H.length by omega))).2 _ hc h5;exact h6.symm
  ·obtain rfl:j=k - 1:=by omega
   rfl
 split
 ·rename_i h;obtain⟨h0,h⟩:=h;have hl:k - 1<H.length:=by omega
  rw[aQ hl] at h |-;obtain⟨a,b⟩:=hH.cut _ (List.getElem_mem hl);exact .inr ⟨a,h,b⟩
 ·rename_i h;refine .inl ⟨rfl,λc hc=>?_⟩
  cases hu:aZ n c with
  | false=>rfl
  | true=>
   exfalso;have hex:∀ (m:Nat) (c:List UInt8),(back c).length<=m->C c=true->aZ n c=true->∃ t,C t=true/\aZ n t=true/\∀ d,C d=true->aZ t d=true->d=t:=by
    intro m
    induction m with
    | zero=>
     intro c hm hc hu;refine⟨c,hc,hu,λd hd FR=>?_⟩;have h3:=((nt (hC d hd)).1 FR);exact xO (h3.eq_of_length_le (by omega))
    | succ m ih=>
     intro c hm hc hu;by_cases ht:∀ d,C d=true->aZ c d=true->d=c
     ·exact⟨c,hc,hu,ht⟩
     ·obtain⟨d,hd⟩:=Classical.not_forall.1 ht;obtain⟨fS,hd⟩:=Classical.not_imp.1 hd;obtain⟨iO,FV⟩:=Classical.not_imp.1 hd;have h3:=((nt (hC d fS)).1 iO);refine ih d ?_ fS (Ho (hC c hc) (hC d fS) hu iO);refine Nat.le_of_lt_succ (lQ (Nat.lt_of_not_le λhl=>FV (xO (h3.eq_of_length_le hl))) hm)
   obtain⟨t,t1,t2,t3⟩:=hex _ c (bQ _) hc hu;obtain⟨p1,p2,p3⟩:=fw t t1 t2 t3;refine h ⟨p1,?_⟩;rw[aQ p2,p3];exact t2
end Np
end Go.Proofs.YtfnopgdcaanaiaaGreatDoor
