/- Parts of the proof. No condition. -/
import Derived.Lib.Hide
import Derived.WalkSpells
import Derived.WalkLawsBesides
import Derived.BigGuardPart
import Derived.StillTailTactics
import Derived.Deep.Light
import Derived.Test.YtfnopgdcaanaiaaGreatDoorProg
import Derived.RangeFuncNested
import Derived.RangeFuncBound
import Derived.Shelf.RegionOpen
import Derived.OwnWalkIn
import Derived.LoopNIn
import Derived.LoopIn
import Derived.Shelf.Small.Strs
set_option linter.all false
set_option maxRecDepth 100000
set_option maxHeartbeats 8000000
namespace Go.Proofs.YtfnopgdcaanaiaaGreatDoor
open Go.Proofs.Tryz
section
open Go.RowKit
theorem jq{p:Prop}(h:p):Hid p:=Lib.hid h
theorem cl{B:Nat}{w w':World}(h:Below B w w'){b o:Nat}(hb:b<B):w'.cell? ⟨b,o,none⟩=w.cell? ⟨b,o,none⟩:=h.cell hb
theorem aQ.{u}{α:Type u}{l:List α}{i:Nat}(h:i<l.length):l[i]?=some l[i]:=List.getElem?_eq_getElem h
theorem bQ(n:Nat):n≤n:=Nat.le_refl n
theorem cQ.{u}{α:Type u}{i:Nat}{a:α}{l:List α}:l[i]?=some a↔∃ h:i<l.length,l[i]=a:=List.getElem?_eq_some_iff
theorem dQ(b:ByteArray):b.toList=b.data.toList:=ByteArray.toList_eq b
theorem eQ.{u}{α:Type u}{i:Nat}{b:α}{xs:Array α}:xs[i]?=some b↔∃ h:i<xs.size,xs[i]=b:=Array.getElem?_eq_some_iff
theorem fQ.{u}{α:Type u}{i:Nat}{l:List α}(h:i<l.length):l.take (i+1)=l.take i++[l[i]]:=List.take_succ_eq_append_getElem h
theorem gQ.{u}{α:Type u}{l:List α}{i:Nat}{a:α}(e:l[i]?=some a):a∈l:=List.mem_of_getElem? e
theorem Qh.{u}{α:Type u}{a:α}:¬a∈([]:List α):=List.not_mem_nil
theorem iQ{w w':World}{a:Addr}(h:w'.heap[a.block]?=w.heap[a.block]?):w'.cell? a=w.cell? a:=World.cell?_of_block h
theorem jQ(n:Nat):0≤n:=Nat.zero_le n
theorem kQ.{u}{α:Type u}{i:Nat}{l:List α}(h:l.length≤i):l.take i=l:=List.take_of_length_le h
theorem lQ{n m k:Nat}:n<m→m≤k→n<k:=Nat.lt_of_lt_of_le
theorem mQ.{u}{α:Type u}(y:α){a:α}{l:List α}:a∈l→a∈y::l:=List.mem_cons_of_mem y
theorem nQ.{u}{α:Type u}{a:α}{l:List α}:a∈l↔∃ (i:Nat) (h:i<l.length),l[i]=a:=List.mem_iff_getElem
theorem oQ.{u}{α:Type u}{l₁ l₂:List α}{i:Nat}:l₁.length≤i→(l₁++l₂)[i]?=l₂[i-l₁.length]?:=List.getElem?_append_right
theorem pQ.{u}{α:Type u}{xs:Array α}{i:Nat}(h:i<xs.size):xs[i]?=some xs[i]:=Array.getElem?_eq_getElem h
theorem rQ.{u}{α:Type u}{l:List α}:l.length=0→l=[]:=List.eq_nil_of_length_eq_zero
theorem sQ.{u}{α:Type u}{i:Nat}{l:List α}(h:i<l.length):l.drop i=l[i]::l.drop (i+1):=List.drop_eq_getElem_cons h
theorem tQ{p:Prop}[Decidable p]:¬p→decide p=false:=decide_eq_false
theorem uQ{p:Prop}[Decidable p]:p→decide p=true:=decide_eq_true
theorem vQ(B:Nat)(w:World):Below B w w:=Below.refl B w
theorem wQ(w:World)(a:Addr)(u:Value)(k:Nat)(h:k≠a.block):(w.setCell a u).heap[k]?=w.heap[k]?:=Below.heap_setCell w a u k h
theorem xQ(w:World)(a b:Addr)(v:Value)(h:a≠b):(w.setCell a v).cell? b=w.cell? b:=World.cell?_setCell_other w a b v h
theorem yQ{n m k:Nat}:n≤m→m≤k→n≤k:=Nat.le_trans
theorem zQ{r k:Nat}{o:Obj}{w:World}(h:k≠r):(w.putObj r o).heap[k]?=w.heap[k]?:=World.putObj_heap_other h
theorem Qa{p:Prop}[Decidable p]:(decide p=true)=p:=decide_eq_true_eq
theorem Qb.{u}{c:Prop}{h:Decidable c}(hc:c){α:Sort u}{t e:α}:ite c t e=t:=if_pos hc
theorem Qc.{u}{c:Prop}{h:Decidable c}(hn:¬c){α:Sort u}{t e:α}:ite c t e=e:=if_neg hn
theorem Qd.{u,v}{α:Sort u}{β:Sort v}{a b:α}(f:α->β)(h:a=b):f a=f b:=congrArg f h
theorem aaJ{B:Nat}{w w':World}(h:Below B w w'){b o:Nat}{v:Option Value}(e:w.cell? ⟨b,o,none⟩=v)(hb:b<B:=by omega):w'.cell? ⟨b,o,none⟩=v:=(h.cell hb).trans e
theorem aaK{n m:Nat}{a b c:World}(h:Hid (Below n a b))(k:Below m b c)(e:n≤m:=by omega):Hid (Below n a c):=jq (h.out.trans (k.mono e))
theorem acQ.{u}{α:Sort u}(e:α):∃ r,r=e:=⟨_,rfl⟩
abbrev agQ(n:Nat)(w:World)(v:Value)(e:Ending)(w':World):Prop:=e = .returned v/\Below n w w'
abbrev agZ(w:World)(v:Value)(e:Ending)(w':World):Prop:=e = .returned v/\w=w'
abbrev agJ(α:Type):=World->Nat->List Value->α->Prop
theorem abY.{u}{α:Sort u}(e:α):∃ r,e=r:=⟨_,rfl⟩
theorem _root_.Go.RowKit.Below.acJ{n m:Nat}{a b:World}(h:Below m a b)(e:n≤m:=by omega):Below n a b:=h.mono e
theorem acK{p:Prop}[Decidable p](h:¬p:=by omega):decide p=false:=decide_eq_false h
theorem adQ{p:Prop}[Decidable p](h:p:=by omega):decide p=true:=decide_eq_true h
theorem adZ.{u}{α:Type u}{a b:α}(h:a=b:=by kernel_rfl):some a=some b:=congrArg some h
def bU(w:World):Type:={ x:World // Below w.heap.size w x }
def bU.w{w:World}(g:bU w):World:=g.1
theorem bU.below{w:World}(g:bU w):Below w.heap.size w g.w:=g.2
instance (w:World):Nonempty (bU w):=⟨⟨w,vQ _ _⟩⟩
theorem bU.cell{w:World}(g:bU w)(p:Addr)(h:p.block<w.heap.size):g.w.cell? p=w.cell? p:=g.2.cell h
theorem bU.frozen{w:World}(g:bU w)(p:Addr)(h:p.block<w.heap.size):g.w.frozen? p=w.frozen? p:=g.2.frozen h
theorem bU.size{w:World}(g:bU w):w.heap.size<=g.w.heap.size:=g.2.size
def tT(w:World)(w':World):Prop:=∃ g:bU w,w'=g.w
theorem tT.of{w w':World}(h:Below w.heap.size w w'):tT w w':=⟨⟨w',h⟩,rfl⟩
theorem Calls.grow_of{P:Program}{f:FuncId}{args:Array Value}{w:World}{g:bU w}{v:Value}
 (h:Calls P f args g.w λe w'=>e = .returned v/\Below g.w.heap.size g.w w'):Calls P f args g.w λe w''=>e = .returned v/\∃ g':bU w,w''=g'.w:=
 h.mono λ_ w' ⟨he,hm⟩=>⟨he,⟨w',g.2.trans (hm.mono g.2.size)⟩,rfl⟩
section
variable {P:Program}
theorem ou{id:Nat}{Q:Exit->Act->World->Prop}{a:Act}{w:World}{l:List Oper}(hm:P.follows .mixedOrders=true)(hB:Region.lexB .any l.toArray=true)
 (h:wpQuiet P l.toArray (λw'=>∃ g:bU w,w'=g.w) (λa'=>∀ w',(∃ g:bU w,w'=g.w)->Q .normal a' w') l a):(Code.region id l.toArray true).wp P Q a w:=
 wp_region_quiet (C:=λw'=>∃ g:bU w,w'=g.w) hm hB ⟨⟨_,(vQ w.heap.size w).drew⟩,rfl⟩ (by simpa using h)
end
theorem oU{W w1:World}(hb:Below W.heap.size W w1):(∀ b o,b<W.heap.size->w1.cell? ⟨b,o,none⟩=W.cell? ⟨b,o,none⟩)/\(∀ b o,b<W.heap.size->w1.frozen? ⟨b,o,none⟩=W.frozen? ⟨b,o,none⟩):=
 ⟨λb o h=>hb.cell (p:=⟨b,o,none⟩) h,λb o h=>hb.frozen (p:=⟨b,o,none⟩) h⟩
theorem aj{a b:Bool}(h:a=b):Ending.returned (.bool a) = .returned (.bool b):=by rw[h]
theorem lj{k:IntKind}{a b:Int}(h:a=b):Ending.returned (.int k a) = .returned (.int k b):=by rw[h]
theorem bG(s:ByteArray):s.data.toList.length=s.size:=rfl
theorem uM(s:ByteArray)(k:Nat)(h:k<s.size):s.data.toList[k]?=some s[k]:=by
 rw[aQ (by rw[bG];exact h)];rfl
theorem zX(s:ByteArray)(h:0<s.size):s.data.toList.head?=some s[0]:=by
 rw[List.head?_eq_getElem?];exact uM s 0 h
theorem AU(s:ByteArray)(h:s.size - 1<s.size):s.data.toList.getLast?=some s[s.size - 1]:=by
 rw[List.getLast?_eq_getElem?,bG];exact uM s _ h
theorem XD(s:ByteArray)(k:Nat)(h:k<s.size):s.data.toList.take (k+1)=s.data.toList.take k ++ [s[k]]:=by
 rw[fQ (by simpa using h)];rfl
theorem L0(s:ByteArray)(k:Nat)(h:s.size<=k):s.data.toList.take k=s.data.toList:=kQ (by rw[bG];exact h)
theorem ma(c:UInt8)(n:Nat)(hn:n<256):(c == UInt8.ofNat n)=decide ((c.toNat:Int)=n):=by
 rw[Bool.eq_iff_iff];simp only[beq_iff_eq,Qa];constructor
 ·rintro rfl;simp;omega
 ·intro h;apply UInt8.toNat_inj.1;simp;omega
theorem Ff(c:UInt8):0<=(c.toNat:Int)/\(c.toNat:Int)<=255:=by have:=UInt8.toNat_lt c;omega
theorem mY{s t:ByteArray}(h:s.data.toList=t.data.toList):s=t:=by
 cases s;cases t;simp only at h |-;congr 1;exact Array.toList_inj.1 h
theorem Ii(s:ByteArray)(i j:Nat):(s.extract i j).data.toList=(s.data.toList.take j).drop i:=by
 rw[ByteArray.data_extract];simp[Array.toList_extract,List.extract_eq_take_drop,List.drop_take]
theorem zi(s:ByteArray)(i:Nat):(s.extract i s.size).data.toList=s.data.toList.drop i:=by
 rw[Ii,kQ (by rw[bG];exact bQ _)]
theorem zj(s:ByteArray)(j:Nat):(s.extract 0 j).data.toList=s.data.toList.take j:=by rw[Ii];rfl
theorem YM{P:Program}{id:Nat}{Q:Exit->Act->World->Prop}{a:Act}{w:World}{l:List Oper}(n:Nat)(hm:P.follows .mixedOrders=true)(hB:Region.lexTailB .any l.toArray n=true)
 (h:wpStill P l.toArray w.drew (λa'=>wpList P l.toArray Q (l.drop n) a' w.drew) (l.take n) a):(Code.region id l.toArray true).wp P Q a w:=wp_region_still_tail n hm hB h
theorem Calls.still_same{P:Program}{f:FuncId}{args:Array Value}{w:World}{v:Value}(h:Calls P f args w λe w'=>e = .returned v/\w=w'):Calls P f args w λe w''=>e = .returned v/\w''=w:=
 h.mono λ_ _ ⟨he,hw⟩=>⟨he,hw.symm⟩
def fC(w:World)(b o:Nat)(e:List Value):Prop:=∀ j v,e[j]?=some v->w.cell? ⟨b,o+j,none⟩=some v
theorem fC.keep{w w':World}{b o:Nat}{e:List Value}{B:Nat}(h:fC w b o e)(hb:Below B w w')(hB:b<B):fC w' b o e:=
 λj v hj=>(hb.cell (p:=⟨b,o+j,none⟩) hB).trans (h j v hj)
def SlR{α:Type}(R:agJ α)(sz:Nat)(w:World)(B:Nat)(v:Value)(xs:List α):Prop:=
 ∃ (A:Option Addr) (c:Nat),v = .slice A xs.length c/\xs.length<=c/\xs.length<=140737488355328/\∀ i x,xs[i]?=some x->∃ b o e,A=some ⟨b,o,none⟩/\b<B/\e.length=sz/\fC w b (o+i * sz) e/\R w B e x
def cj{α:Type}(R:agJ α):Prop:=∀ w w' B e x,R w B e x->Below B w w'->R w' B e x
theorem SlR.keep{α:Type}{R:agJ α}{sz:Nat}{w w':World}{B:Nat}{v:Value}{xs:List α}(hR:cj R)(h:SlR R sz w B v xs)(hb:Below B w w'):SlR R sz w' B v xs:=by
 obtain⟨A,c,hv,hc,hl,he⟩:=h;refine⟨A,c,hv,hc,hl,λi x hx=>?_⟩;obtain⟨b,o,e,hA,hB,aL,hce,hr⟩:=he i x hx;exact⟨b,o,e,hA,hB,aL,hce.keep hb hB,hR _ _ _ _ _ hr hb⟩
def cB{α:Type}(R:agJ α):Prop:=∀ w B B' e x,R w B e x->B<=B'->R w B' e x
theorem SlR.more{α:Type}{R:agJ α}{sz:Nat}{w:World}{B B':Nat}{v:Value}{xs:List α}(hR:cB R)(h:SlR R sz w B v xs)(hB:B<=B'):SlR R sz w B' v xs:=by
 obtain⟨A,c,hv,hc,hl,he⟩:=h;refine⟨A,c,hv,hc,hl,λi x hx=>?_⟩;obtain⟨b,o,e,hA,hb,aL,hce,hr⟩:=he i x hx;exact⟨b,o,e,hA,by omega,aL,hce,hR _ _ _ _ _ hr hB⟩
theorem aeZ{P:Program}{id:Nat}{Q:Exit->Act->World->Prop}{a:Act}{w:World}{l:List Oper}(h:wpQuiet P l.toArray (λw'=>∃ g:bU w,w'=g.w) (λa'=>∀ w',(∃ g:bU w,w'=g.w)->Q .normal a' w') l a)(hm:P.follows .mixedOrders=true:=by kernel_rfl)(hB:Region.lexB .any l.toArray=true:=by kernel_rfl):(Code.region id l.toArray true).wp P Q a w:=ou hm hB h
end
namespace Np
def rm(c:UInt8):Bool:=97<=c&&c<=122
def mK(c:UInt8):Bool:=48<=c&&c<=57
def lX(c:UInt8):Bool:=rm c||mK c||c == 45
def cH(l:List UInt8):Bool:=decide (1<=l.length)&&decide (l.length<=12)&&!(l.head? == some 45)&&!(l.getLast? == some 45)&&l.all lX
def CU(l:List UInt8)(c:UInt8)(r:Int):Prop:=(r = -1/\c∉l)\/∃ a b,l=a++c::b/\c∉b/\r=a.length
def aS:List UInt8->List (List UInt8)
 | []=>[[]]
 | c::r=>if c=46 then []::aS r else match aS r with
   | x::xs=>(c::x)::xs
   | []=>[[c]]
theorem pS(l:List UInt8):aS l≠[]:=by
 cases l with
 | nil=>simp[aS]
 | cons c r=>
  unfold aS;split
  ·simp
  ·split <;> simp
theorem tG{l:List UInt8}(h:46∉l):aS l = [l]:=by
 induction l with
 | nil=>rfl
 | cons c r ih=>
  have h1:c≠46:=λe=>h (by simp[e]);have h2:46∉r:=λe=>h (by simp[e]);unfold aS;rw[Qc h1,ih h2]
theorem Bx(a b:List UInt8):aS (a++46::b)=aS a++aS b:=by
 induction a with
 | nil=>simp[aS]
 | cons c r ih=>
  rw[List.cons_append];by_cases h:c=46
  ·rw[aS,Qb h,aS,Qb h,ih];rfl
  ·rw[aS,Qc h,aS,Qc h,ih];have hne:=pS r
   cases hr:aS r with
   | nil=>exact absurd hr hne
   | cons x xs=>rfl
def back(l:List UInt8):List (List UInt8):=if l = [46] then [] else (aS l).reverse
def dF:List (List UInt8)->Nat->Bool->Bool
 | [],_,_=>true
 | x::xs,n,wild=>if wild||decide (8<n+1) then false else if x = [42] then dF xs (n+1) true else if cH x then dF xs (n+1) false else false
def aG(l:List UInt8):Bool:=if l = [46] then true else if 60<l.length then false else dF (aS l).reverse 0 false
theorem Xm{l y:List UInt8}(h:y∈aS l):y.length<=l.length:=by
 induction l generalizing y with
 | nil=>simp[aS] at h;subst h;simp
 | cons c r ih=>
  unfold aS at h;split at h
  ·rcases List.mem_cons.1 h with e | e
   ·subst e;simp
   ·have:=ih e;simp;omega
  ·split at h
   ·rename_i x xs hx;rcases List.mem_cons.1 h with e | e
    ·subst e;have:=ih (y:=x) (by rw[hx];simp);simp;omega
    ·have:=ih (y:=y) (by rw[hx];simp[e]);simp;omega
   ·simp at h;subst h;simp
theorem yY{l y:List UInt8}(h:y∈back l):y.length<=l.length:=by
 unfold back at h;split at h
 ·cases h
 ·exact Xm (List.mem_reverse.1 h)
def nB(c:UInt8):Bool:=rm c||mK c||c == 32
def ir(l:List UInt8):Bool:=decide (1<=l.length)&&decide (l.length<=40)&&!(l.head? == some 32)&&!(l.getLast? == some 32)&&l.all nB
def eU(l:List UInt8):Bool:=l.head? == some 42
structure Rule where
 text:Int
 leastN:Int
 mostN:Int
 leastM:Int
 mostM:Int
 even:Bool
 single:Bool
 wild:Bool
structure Datum where
 text:List UInt8
 n:Int
 m:Int
deriving DecidableEq
def tM(k:Int)(l:List UInt8):Bool:=if k=1 then aG l&&!eU l else if k=2 then aG l else if k=3 then ir l else l == []
def jt(r:Rule)(d:Datum):Bool:=
 (decide (r.leastN<=d.n)&&decide (d.n<=r.mostN))&&(decide (r.leastM<=d.m)&&decide (d.m<=r.mostM))&&!(r.even&&(d.n.tmod 2 != 0))&&tM r.text d.text
def bJ(a b:List UInt8):Int:=if Go.Op.bytesLess a b then -1 else if a=b then 0 else 1
def cL(a b:Int):Int:=if a<b then -1 else if b<a then 1 else 0
def uG(a b:Datum):Int:=if bJ a.text b.text≠0 then bJ a.text b.text else if cL a.n b.n≠0 then cL a.n b.n else cL a.m b.m
def rules:List Rule:=[⟨0,0,0,0,0,false,false,false⟩,⟨0,1,1000000,0,0,false,false,true⟩,⟨1,0,0,0,0,false,false,false⟩,⟨1,0,0,0,0,false,true,false⟩,⟨0,0,65535,0,100000,false,true,false⟩,
 ⟨3,0,0,0,0,false,false,true⟩,⟨0,1,1000000,1,3,false,false,false⟩,⟨0,1,1000000,1,3,false,false,false⟩,⟨2,2,510,0,0,true,false,true⟩]
def bN(k:Int):Rule:=rules.getD k.toNat ⟨0,0,0,0,0,false,false,false⟩
structure DSet where
 name:List UInt8
 type:Int
 life:Int
 data:List Datum
deriving DecidableEq
def gU(r:Rule):Option Datum->List Datum->Bool
 | _,[]=>true
 | p,d::ds=>jt r d&&(match p with | none=>true | some q=>decide (uG q d<0))&&gU r (some d) ds
def bO(s:DSet):Bool:=
 aG s.name&&(decide (1<=s.type)&&decide (s.type<=8))&&(decide (0<=s.life)&&decide (s.life<=100000))&&(decide (1<=s.data.length)&&decide (s.data.length<=8)) &&
 !((bN s.type).single&&decide (s.data.length≠1))&&!(eU s.name&&!(bN s.type).wild)&&gU (bN s.type) none s.data
theorem Rf{r:Rule}{p:Option Datum}{ds:List Datum}{j:Nat}{d:Datum}(hd:ds[j]?=some d)(h:jt r d=false):gU r p (ds.drop j)=false:=by
 rw[sQ (cQ.1 hd).1,(cQ.1 hd).2];simp[gU,h]
theorem Rg{r:Rule}{ds:List Datum}{d:Datum}(hd:ds[0]?=some d)(h:jt r d=true):gU r (ds.take 0).getLast? (ds.drop 0)=gU r (ds.take 1).getLast? (ds.drop 1):=by
 cases ds with
 | nil=>simp at hd
 | cons x r=>simp at hd;subst hd;simp[gU,h]
theorem Rh{r:Rule}{ds:List Datum}{j:Nat}{q d:Datum}(hq:ds[j]?=some q)(hd:ds[j+1]?=some d)(h:jt r d=true) :
 gU r (ds.take (j+1)).getLast? (ds.drop (j+1))=if uG q d<0 then gU r (ds.take (j+1+1)).getLast? (ds.drop (j+1+1)) else false:=by
 have h1:=(cQ.1 hq);have h2:=(cQ.1 hd);rw[sQ h2.1,h2.2,fQ h1.1,h1.2,fQ h2.1,h2.2];simp only[List.getLast?_append,List.getLast?_singleton,Option.some_or,gU,h];split <;> rename_i hc <;> simp[hc]
end Np
section
open Go.RowKit
theorem Kz(c:UInt8):Np.lX c=decide ((97<=(c.toNat:Int)/\(c.toNat:Int)<=122)\/(48<=(c.toNat:Int)/\(c.toNat:Int)<=57)\/(c.toNat:Int)=45):=by
 have h:=ma c 45 (by decide);unfold Np.lX Np.rm Np.mK;rw[show (45:UInt8)=UInt8.ofNat 45 from rfl,h,Bool.eq_iff_iff];simp[UInt8.le_iff_toNat_le];omega
theorem Ut(s:ByteArray)(h:(s.size:Int)<1):Np.cH s.data.toList=false:=by
 have:¬ 1<=s.size:=by omega
 simp[Np.cH,this]
theorem Uu(s:ByteArray)(h:12<(s.size:Int)):Np.cH s.data.toList=false:=by
 have:¬ s.size<=12:=by omega
 simp[Np.cH,this]
theorem Uv(s:ByteArray)(h0:0<s.size)(h:(s[0].toNat:Int)=45):Np.cH s.data.toList=false:=by
 have e:=ma s[0] 45 (by decide);rw[uQ (by simpa using h)] at e;have e2:s[0]=(45:UInt8):=by simpa using e
 simp[Np.cH,zX s h0,e2]
theorem Uw(s:ByteArray)(h0:s.size - 1<s.size)(h:(s[s.size - 1].toNat:Int)=45):Np.cH s.data.toList=false:=by
 have e:=ma s[s.size - 1] 45 (by decide);rw[uQ (by simpa using h)] at e;have e2:s[s.size - 1]=(45:UInt8):=by simpa using e
 simp[Np.cH,AU s h0,e2]
theorem Ux(s:ByteArray)(k:Nat)(hk:k<s.size)(h:Np.lX s[k]=false):Np.cH s.data.toList=false:=by
 have:s.data.toList.all Np.lX=false:=by
  rw[List.all_eq_false];exact⟨s[k],by rw[<-cQ.1 (uM s k hk) |>.2];exact List.getElem_mem _,by simp[h]⟩
 simp[Np.cH,this]
theorem Uy(s:ByteArray)(h1:1<=s.size)(h2:s.size<=12)(h3:¬ (s[0].toNat:Int)=45)(h4:¬ (s[s.size - 1].toNat:Int)=45)(h5:s.data.toList.all Np.lX=true):Np.cH s.data.toList=true:=by
 have e:=ma s[0] 45 (by decide);have e':=ma s[s.size - 1] 45 (by decide);rw[tQ (by simpa using h3)] at e;rw[tQ (by simpa using h4)] at e';have e2:¬ s[0]=(45:UInt8):=by simpa using e
 have e3:¬ s[s.size - 1]=(45:UInt8):=by simpa using e'
 simp[Np.cH,AU s (by omega),zX s (by omega),e2,e3,h5,h1,h2]
theorem Hg(s:ByteArray)(k:Nat)(h:k<s.size)(p:UInt8->Bool)(h1:(s.data.toList.take k).all p=true)(h2:p s[k]=true):(s.data.toList.take (k+1)).all p=true:=by
 rw[XD s k h,List.all_append,h1];simp[h2]
theorem Uz(s:ByteArray)(hs:s.size<=140737488355328)(w:World) :
 Calls prog 245 #[.string s] w (agZ w (.bool (Np.cH s.data.toList))):=by
 go_enter func245,ntmps245;go_wp2
 ·go_ret;exact⟨aj (Ut s ‹_›).symm,rfl⟩
 ·go_ret;exact⟨aj (Uu s ‹_›).symm,rfl⟩
 ·go_ret;exact⟨aj (Uv s ‹_› ‹_›).symm,rfl⟩
 ·have h:((s[s.size - 1].toNat:Int) == 45)=true:=by assumption
  go_ret;exact⟨aj (Uw s (by omega) (by simpa using h)).symm,rfl⟩
 ·have h1:1<=(s.size:Int):=by assumption
  have h2:(s.size:Int)<=12:=by assumption
  have h3:¬ (s[0].toNat:Int)=45:=by assumption
  have h4:((s[s.size - 1].toNat:Int) == 45)=false:=by assumption
  have H4:=jq h4;clear h4;have H3:=jq h3;go_loop [28] (λi=>∃ k:Nat,k<=s.size/\i = .int .i64 k/\(s.data.toList.take k).all Np.lX=true) (λi=>s.size - (intOf i).toNat)
  case atStart=>exact⟨0,jQ _,rfl,rfl⟩
  case round=>
   obtain⟨k,hk,rfl,ha⟩:=hrel;have HA:=jq ha;clear ha;by_cases aa:k<s.size
   ·have hb:=Ff s[k];go_wp2
    all_goals first
     | (have hne:((s[k].toNat:Int) != 45)=true:=by assumption
        have Ei:=bne_iff_ne.1 hne;go_ret;exact⟨aj (Ux s k aa (by rw[Kz];exact acK)).symm,rfl⟩)
     | (have hl:Np.lX s[k]=true:=by
         rw[Kz];refine uQ ?_
         first
          | omega
          | (have hne:((s[k].toNat:Int) != 45)=false:=by assumption
             have Ei:(s[k].toNat:Int)=45:=by simpa using hne
             omega)
        go_round
        case rel=>exact⟨k+1,by omega,by go_num,Hg s k aa _ HA.out hl⟩
        case measure=>simp[intOf] <;> omega)
   ·go_wp2;go_ret;exact⟨aj (Uy s (by omega) (by omega) H3.out (by simpa using H4.out) (by have:=HA.out;rwa [L0 s k (by omega)] at this)).symm,rfl⟩
theorem XS(c:Int)(h0:0<=c)(h1:c<=255)(x:UInt8):x=UInt8.ofNat c.toNat↔(x.toNat:Int)=c:=by
 have h:=ma x c.toNat (by omega);rw[Bool.eq_iff_iff] at h;simp only[beq_iff_eq,Qa] at h;rw[h];omega
theorem UR(s:ByteArray)(c:UInt8)(h:c∉s.data.toList.drop 0):Np.CU s.data.toList c (-1):=.inl ⟨rfl,by simpa using h⟩
theorem US(s:ByteArray)(c:UInt8)(k:Nat)(hk:k<s.size)(h:c∉s.data.toList.drop (k+1))(hc:s[k]=c):Np.CU s.data.toList c (k:Int):=by
 refine .inr ⟨s.data.toList.take k,s.data.toList.drop (k+1),?_,h,?_⟩
 ·subst hc;rw[show s[k]=s.data.toList[k]'(by rw[bG];exact hk) from rfl,<-sQ,List.take_append_drop]
 ·simp;have:=bG s;simp at this;omega
theorem QH(s:ByteArray)(c:UInt8)(k:Nat)(hk:k<s.size)(h:c∉s.data.toList.drop (k+1))(hc:¬ s[k]=c):c∉s.data.toList.drop k:=by
 rw[sQ (by rw[bG];exact hk)];intro hm;rcases List.mem_cons.1 hm with e | e
 ·exact hc e.symm
 ·exact h e
def Fz(s:ByteArray)(c:UInt8)(w:World)(e:Ending)(w':World):Prop:=∃ r:Int,Np.CU s.data.toList c r/\e = .returned (.int .i64 r)/\w=w'
theorem UT(s:ByteArray)(hs:s.size<=140737488355328)(c:Int)(h0:0<=c)(h1:c<=255)(w:World) :
 Calls prog 345 #[.string s,.int .u8 c] w (Fz s (UInt8.ofNat c.toNat) w):=by
 go_enter func345,ntmps345;go_wp2;go_loop [5] (λi=>∃ k:Int,-1<=k/\k<s.size/\i = .int .i64 k/\Hid (UInt8.ofNat c.toNat∉s.data.toList.drop (k+1).toNat)) (λi=>(intOf i+1).toNat)
 case atStart=>exact⟨_,by omega,by omega,rfl,jq (by rw[List.drop_eq_nil_of_le (by rw[bG];omega)];simp)⟩
 case round=>
  obtain⟨k,cN,cO,rfl,H⟩:=hrel;by_cases aa:0<=k
  ·obtain⟨j,rfl⟩:=Int.eq_ofNat_of_zero_le aa;have hj:j<s.size:=by omega
   have hb:=Ff s[j];have hd:=XS c h0 h1 s[j];have HD:=jq hd;clear hd;go_wp2
   all_goals first
    | (have he:((s[j].toNat:Int) == c)=true:=by assumption
       go_ret;exact⟨j,US s _ j hj (by simpa using H.out) (HD.out.2 (by simpa using he)),rfl,rfl⟩)
    | (have he:((s[j].toNat:Int) == c)=false:=by assumption
       go_round
       case rel=>exact⟨(j:Int) - 1,by omega,by omega,rfl,jq (by have:=QH s _ j hj (by simpa using H.out) (λe=>by have:=HD.out.1 e;simp[this] at he);simpa using this)⟩
       case measure=>simp[intOf] <;> omega)
  ·obtain rfl:k = -1:=by omega
   go_wp2;go_ret;exact⟨-1,UR s _ (by simpa using H.out),rfl,rfl⟩
theorem ER(s:ByteArray)(hs:s.size<=140737488355328)(c:Int)(h0:0<=c)(h1:c<=255)(w:World) :
 Calls prog 298 #[.string s,.int .u8 c] w (Fz s (UInt8.ofNat c.toNat) w):=by
 go_enter func298,ntmps298;go_wp2_with (go_at_call 345;refine (UT _ hs _ h0 h1 _).mono ?_;rintro e w' ⟨r,hr,rfl,rfl⟩);go_ret;exact⟨r,hr,rfl,rfl⟩
end
namespace D
open Go.RowKit
structure Below(B:Nat)(w w':World):Prop where
 os:w'.os=w.os
 tape:w'.tape=w.tape
 output:w'.output=w.output
 size:w.heap.size<=w'.heap.size
 block:∀ k,k<B->w'.heap[k]?=w.heap[k]?
 drawn:w.drawn<=w'.drawn
theorem Below.low{B:Nat}{w w':World}(h:Below B w w'):Go.RowKit.Below B w w':=⟨h.os,h.tape,h.output,h.size,h.block⟩
theorem vQ(B:Nat)(w:World):Below B w w:=⟨rfl,rfl,rfl,bQ _,λ_ _=>rfl,bQ _⟩
theorem Below.trans{B:Nat}{a b c:World}(h:Below B a b)(k:Below B b c):Below B a c:=
 ⟨k.os.trans h.os,k.tape.trans h.tape,k.output.trans h.output,yQ h.size k.size,λi hi=>(k.block i hi).trans (h.block i hi),yQ h.drawn k.drawn⟩
theorem Below.mono{B B':Nat}{w w':World}(h:Below B w w')(hB:B'<=B):Below B' w w':=⟨h.os,h.tape,h.output,h.size,λk hk=>h.block k (lQ hk hB),h.drawn⟩
theorem Below.drew{B:Nat}{a w:World}(h:Below B a w):Below B a w.drew:=⟨h.os,h.tape,h.output,h.size,h.block,Nat.le_succ_of_le h.drawn⟩
theorem Below.heap_alloc(w:World)(o:Obj)(k:Nat)(h:k<w.heap.size):(w.alloc o).heap[k]?=w.heap[k]?:=Go.RowKit.Below.heap_alloc w o k h
theorem wQ(w:World)(a:Addr)(u:Value)(k:Nat)(h:k≠a.block):(w.setCell a u).heap[k]?=w.heap[k]?:=Go.RowKit.Below.heap_setCell w a u k h
theorem Below.alloc{B:Nat}{a w:World}(h:Below B a w)(hB:B<=w.heap.size)(o:Obj):Below B a (w.alloc o):=
 h.trans ⟨rfl,rfl,rfl,by simp,λk hk=>Below.heap_alloc _ _ _ (by omega),bQ _⟩
theorem Below.setCell{B:Nat}{a w:World}(h:Below B a w){p:Addr}(hp:B<=p.block)(u:Value):Below B a (w.setCell p u):=
 h.trans ⟨rfl,rfl,rfl,by simp[World.setCell],λk hk=>wQ _ _ _ _ (by omega),bQ _⟩
theorem Below.cell{B:Nat}{w w':World}(h:Below B w w'){p:Addr}(hp:p.block<B):w'.cell? p=w.cell? p:=h.low.cell hp
theorem Below.frozen{B:Nat}{w w':World}(h:Below B w w'){p:Addr}(hp:p.block<B):w'.frozen? p=w.frozen? p:=h.low.frozen hp
structure ItStep(B:Nat)(S:Nat->Prop)(W W':World):Prop where
 os:W'.os=W.os
 tape:W'.tape=W.tape
 output:W'.output=W.output
 size:W.heap.size<=W'.heap.size
 keep:∀ k,k<W.heap.size->(k<B\/S k)->W'.heap[k]?=W.heap[k]?
 drawn:W.drawn<=W'.drawn
structure RdStep(S:Nat->Prop)(W W':World):Prop where
 os:W'.os=W.os
 tape:W'.tape=W.tape
 output:W'.output=W.output
 size:W.heap.size<=W'.heap.size
 keep:∀ k,k<W.heap.size->¬ S k->W'.heap[k]?=W.heap[k]?
 drawn:W.drawn<=W'.drawn
theorem ItStep.refl(B:Nat)(S:Nat->Prop)(W:World):ItStep B S W W:=⟨rfl,rfl,rfl,bQ _,λ_ _ _=>rfl,bQ _⟩
theorem RdStep.refl(S:Nat->Prop)(W:World):RdStep S W W:=⟨rfl,rfl,rfl,bQ _,λ_ _ _=>rfl,bQ _⟩
theorem ItStep.trans{B:Nat}{S:Nat->Prop}{A W C:World}(h:ItStep B S A W)(k:ItStep B S W C):ItStep B S A C:=
 ⟨k.os.trans h.os,k.tape.trans h.tape,k.output.trans h.output,yQ h.size k.size,λi hi hs=>(k.keep i (lQ hi h.size) hs).trans (h.keep i hi hs),yQ h.drawn k.drawn⟩
theorem RdStep.trans{S S':Nat->Prop}{A W C:World}(h:RdStep S A W)(k:RdStep S' W C)(hS:∀ i,S' i->S i\/A.heap.size<=i):RdStep S A C:=
 ⟨k.os.trans h.os,k.tape.trans h.tape,k.output.trans h.output,yQ h.size k.size,λi hi hs=>
  (k.keep i (lQ hi h.size) (λe=>by rcases hS i e with e | e;exact hs e;omega)).trans (h.keep i hi hs),yQ h.drawn k.drawn⟩
theorem RdStep.mono{S S':Nat->Prop}{A W:World}(h:RdStep S A W)(hS:∀ i,S i->S' i):RdStep S' A W:=
 ⟨h.os,h.tape,h.output,h.size,λi hi hs=>h.keep i hi (λe=>hs (hS i e)),h.drawn⟩
theorem ItStep.of_below{B:Nat}{S:Nat->Prop}{A W:World}(h:Below A.heap.size A W):ItStep B S A W:=
 ⟨h.os,h.tape,h.output,h.size,λk hk _=>h.block k hk,h.drawn⟩
theorem RdStep.of_below{S:Nat->Prop}{A W:World}(h:Below A.heap.size A W):RdStep S A W:=
 ⟨h.os,h.tape,h.output,h.size,λk hk _=>h.block k hk,h.drawn⟩
theorem RdStep.below{S:Nat->Prop}{A W:World}{n:Nat}(h:RdStep S A W)(hn:n<=A.heap.size)(hS:∀ k,S k->n<=k):Below n A W:=
 ⟨h.os,h.tape,h.output,h.size,λk hk=>h.keep k (by omega) (λe=>by have:=hS k e;omega),h.drawn⟩
theorem RdStep.setCell{S:Nat->Prop}{A W:World}(h:RdStep S A W){p:Addr}(hp:S p.block\/A.heap.size<=p.block)(u:Value):RdStep S A (W.setCell p u):=
 ⟨h.os,h.tape,h.output,by simpa [World.setCell] using h.size,λk hk hs=>(wQ _ _ _ _ (by rintro rfl;rcases hp with hp | hp;exact hs hp;omega)).trans (h.keep k hk hs),h.drawn⟩
theorem RdStep.alloc{S:Nat->Prop}{A W:World}(h:RdStep S A W)(o:Obj):RdStep S A (W.alloc o):=
 ⟨h.os,h.tape,h.output,yQ h.size (by simp),λk hk hs=>(Below.heap_alloc _ _ _ (lQ hk h.size)).trans (h.keep k hk hs),h.drawn⟩
theorem RdStep.drew{S:Nat->Prop}{A W:World}(h:RdStep S A W):RdStep S A W.drew:=⟨h.os,h.tape,h.output,h.size,h.keep,Nat.le_succ_of_le h.drawn⟩
theorem RdStep.then_below{S:Nat->Prop}{A W C:World}(h:RdStep S A W)(k:Below W.heap.size W C):RdStep S A C:=
 ⟨k.os.trans h.os,k.tape.trans h.tape,k.output.trans h.output,yQ h.size k.size,λi hi hs=>(k.block i (lQ hi h.size)).trans (h.keep i hi hs),yQ h.drawn k.drawn⟩
def dE{β:Type}(B:Nat)(J:β->(Nat->Prop)->World->Prop):Prop:=∀ s S W W',J s S W->ItStep B S W W'->J s S W'
def yR{α:Type}(J Jx:List α->(Nat->Prop)->World->Prop)(pre:List α)(x:α)(S:Nat->Prop)(W:World)(e:Ending)(W':World):Prop:=
 ∃ S':Nat->Prop,RdStep S W W'/\(∀ k,S' k->S k\/W.heap.size<=k)/\(∀ k,S' k->k<W'.heap.size)/\
   ((e = .returned (.bool true)/\J (pre ++ [x]) S' W')\/(e = .returned (.bool false)/\Jx (pre ++ [x]) S' W'))
def oP{α:Type}(P:Program)(gf:FuncId)(mk:Value->Array Value)(encs:α->Array Value)(xs:List α)(n₀:Nat)(w:World):Prop:=
 ∀ (l:Nat) (J Jx:List α->(Nat->Prop)->World->Prop) (S:Nat->Prop) (W:World),Below n₀ w W->
   dE W.heap.size J->dE W.heap.size Jx->
   (∀ pre x S1 W1,pre ++ [x] <+: xs->J pre S1 W1->(∀ k,S1 k->k<W1.heap.size)->W.heap.size<=W1.heap.size->
     YieldAt Fence.wide 0 P l (encs x) W1 (yR J Jx pre x S1 W1))->
   (∀ k,S k->n₀<=k)->(∀ k,S k->k<W.heap.size)->J [] S W->
   CallsIn Fence.wide 0 P gf (mk (.func (.yield l) #[] #[])) W λe W'=>(∃ v,e = .returned v)/\
    ((∃ S',J xs S' W'/\(∀ k,S' k->S k\/W.heap.size<=k))\/(∃ pre S',pre <+: xs/\Jx pre S' W'/\(∀ k,S' k->S k\/W.heap.size<=k)))
def jY{α:Type}(I:List α->(Nat->Prop)->World->Prop)(Ix:Code->List α->(Nat->Prop)->World->Prop)(xs:List α)(S:Nat->Prop)(W:World):Exit->Act->World->Prop
 | .normal,_,W'=>∃ S',RdStep S W W'/\(∀ k,S' k->S k\/W.heap.size<=k)/\(∀ k,S' k->k<W'.heap.size)/\I xs S' W'
 | .ret,_,W'=>∃ S',RdStep S W W'/\(∀ k,S' k->S k\/W.heap.size<=k)/\(∀ k,S' k->k<W'.heap.size)/\Ix .ret xs S' W'
 | .exit id,_,W'=>∃ S',RdStep S W W'/\(∀ k,S' k->S k\/W.heap.size<=k)/\(∀ k,S' k->k<W'.heap.size)/\Ix (.exit id) xs S' W'
 | _,_,_=>False
theorem gK{B:Nat}{S:Nat->Prop}{W:World}{l:Nat}(o:Obj)(hl:B<=l)(hS:¬ S l):ItStep B S W (W.putObj l o):=
 ⟨rfl,rfl,rfl,by simp,λk _ hk=>zQ (by rintro rfl;rcases hk with hk | hk;omega;exact hS hk),bQ _⟩
theorem oh{B:Nat}{S:Nat->Prop}{W:World}(o:Obj):ItStep B S W (W.alloc o):=
 ⟨rfl,rfl,rfl,by simp,λk hk _=>Below.heap_alloc _ _ _ hk,bQ _⟩
theorem ItStep.weaken{B B':Nat}{S S':Nat->Prop}{W W':World}(h:ItStep B S W W')(hB:B'<=B)(hS:∀ k,S' k->S k):ItStep B' S' W W':=
 ⟨h.os,h.tape,h.output,h.size,λk hk hs=>h.keep k hk (hs.imp (λe=>by omega) (hS k)),h.drawn⟩
theorem Fs{α:Type}{P:Program}{g:Operand}{ps:Array Tmp}{assign body:Code}{Q:Exit->Act->World->Prop}{a:Act}{w:World}
 {gf:FuncId} {first captured:Array Value} (hg:a.eval g = .func (.func gf) first captured) (eg:∀ args w,(callFunc gf args).run P w = .ok (.enter gf args) w)
 {mk:Value->Array Value} {encs:α->Array Value} {xs:List α} {n₀:Nat} {w0:World} (f9:∀ y,mk y=first ++ #[y]++captured)
 (hit:oP P gf mk encs xs n₀ w0) (bW:Below n₀ w0 w) (jJ:n₀<=w.heap.size) (eS:∀ x,(encs x).size=ps.size)
 (I:List α->(Nat->Prop)->World->Prop) (Ix:Code->List α->(Nat->Prop)->World->Prop) (A:List α->α->(Nat->Prop)->Act->World->Prop)
 (hI:dE w.heap.size I) (fX:∀ c,dE w.heap.size (Ix c)) (hA:∀ pre x S a' W W',A pre x S a' W->ItStep w.heap.size S W W'->A pre x S a' W')
 (S0:Nat->Prop) (lH:∀ k,S0 k->n₀<=k) (ie:∀ k,S0 k->k<w.heap.size) (h0:I [] S0 w)
 (vd:∀ (l:Nat) (pre:List α) (x:α) (S:Nat->Prop) (W:World),pre ++ [x] <+: xs->I pre S W->(∀ k,S k->k<W.heap.size)->
   assign.wpIn (Fence.wide.inRound l) 0 P (Exit.then (λa₁ W₁=>∃ S',RdStep S W W₁/\(∀ k,S' k->S k\/W.heap.size<=k)/\(∀ k,S' k->k<W₁.heap.size)/\A pre x S' a₁ W₁) (λ_ _ _=>False))
    { tmps:=(ps.zip (encs x)).foldl (λt (p,v)=>t.setIfInBounds p v) a.tmps,defers:=[] } W)
 (vk:∀ (l:Nat) (pre:List α) (x:α) (S:Nat->Prop) (a₁:Act) (W:World),pre ++ [x] <+: xs->A pre x S a₁ W->(∀ k,S k->k<W.heap.size)->
   body.wpIn (Fence.wide.inRound l) 0 P (jY I Ix (pre ++ [x]) S W) a₁ W)
 (kf:∀ (D:Nat) (S:Nat->Prop) (W:World),w.heap.size<=D->¬ S D->(∀ k,S k->S0 k\/w.heap.size<=k)->I xs S W->W.heap[D]?=some (.deferred (some []))->
   Q .normal { a with defers:={ target:=.collected D,args:=#[] } :: a.defers } W)
 (jl:∀ (D:Nat) (c:Code) (pre:List α) (S:Nat->Prop) (W:World),w.heap.size<=D->¬ S D->(∀ k,S k->S0 k\/w.heap.size<=k)->pre <+: xs->Ix c pre S W->W.heap[D]?=some (.deferred (some []))->
   c.wpIn Fence.wide 0 P Q { a with defers:={ target:=.collected D,args:=#[] } :: a.defers } W) :
 (Code.rangeFunc g ps assign body).wpIn Fence.wide 0 P Q a w:=by
 refine wpIn_rangeFunc ?_;intro fn fY;show ∃ (l:Nat) (mark:List Deferred) (w₁:World) (d:Deferred) (w₁':World) (f:FuncId) (args:Array Value) (w₂:World),(Instr.enterLoop fn a.tmps ps assign body none).run P w = .ok (l,mark) w₁/\_;obtain⟨rec,dw⟩:∃ rec:LoopState->Option Code->Loop,rec=λst pe=>{ state:=st,pending:=pe,fn,tmps:=a.tmps,params:=ps,assign,body,defers:=w.heap.size }:=⟨_,rfl⟩;obtain⟨W1,aw⟩:=abY ((w.alloc (.deferred (some []))).alloc (.loop (rec .ready none)));have ag:W1.heap.size=w.heap.size+2:=by rw[<-aw];simp
 have o7:W1.heap[w.heap.size+1]?=some (.loop (rec .ready none)):=by
  rw[<-aw];have:=World.alloc_heap_new (w.alloc (.deferred (some []))) (.loop (rec .ready none));rwa [World.size_alloc] at this
 have uP:W1.heap[w.heap.size]?=some (.deferred (some [])):=by
  rw[<-aw];exact (Below.heap_alloc _ _ _ (by simp)).trans (World.alloc_heap_new w _)
 have lG:I [] S0 W1:=by rw[<-aw];exact hI _ _ _ _ (hI _ _ _ _ h0 (oh _)) (oh _)
 have aq:Below n₀ w0 W1:=by
  rw[<-aw];exact bW.trans ((((vQ _ w).alloc (bQ _) _).alloc (by simp) _).mono jJ)
 refine⟨w.heap.size+1,[{ target:=.collected w.heap.size,args:=#[] }],W1,{ target:=.fn (.func gf) captured,args:=first ++ #[.func (.yield (w.heap.size+1)) #[] #[]] },W1,gf,
  first ++ #[.func (.yield (w.heap.size+1)) #[] #[]]++captured,W1,?_,?_,?_,?_,λh=>by simp[Fence.wide] at h,?_⟩
 ·rw[<-aw,dw];exact run_enterLoop_outer _ _ _ _ _
 ·simp only[resolve,hg];simp[go_sem]
 ·intro f' _;trivial
 ·simp[invoke,go_sem,eg]
 ·rw[<-f9];have key:=hit (w.heap.size+1)
   (λpre Si W=>∃ S:Nat->Prop,(∀ k,Si k↔S k\/k=w.heap.size+1)/\(¬ S w.heap.size)/\(¬ S (w.heap.size+1))/\(∀ k,S k->S0 k\/w.heap.size<=k)/\I pre S W/\W.heap[w.heap.size+1]?=some (.loop (rec .ready none))/\W.heap[w.heap.size]?=some (.deferred (some [])))
   (λpre Si W=>∃ (S:Nat->Prop) (c:Code),(∀ k,Si k↔S k\/k=w.heap.size+1)/\(¬ S w.heap.size)/\(¬ S (w.heap.size+1))/\(∀ k,S k->S0 k\/w.heap.size<=k)/\Ix c pre S W/\W.heap[w.heap.size+1]?=some (.loop (rec .done (some c)))/\W.heap[w.heap.size]?=some (.deferred (some [])))
   (λk=>S0 k\/k=w.heap.size+1) W1 aq ?_ ?_ ?_ ?_ ?_ ?_
  ·refine key.mono ?_;rintro e W2 ⟨⟨v,rfl⟩,(⟨S',⟨S,bK,hD,hL,aF,hi,hl,hk⟩,_⟩ | ⟨pre,S',fM,⟨S,c,bK,hD,hL,aF,hi,hl,hk⟩,_⟩)⟩
   ·refine⟨none,_,by have:=run_endLoop (P:=P) hl (by rw[dw];simp);rw[dw] at this;exact this,?_⟩;exact kf _ S _ (bQ _) hD aF (hI _ _ _ _ hi (gK _ (by omega) hL)) ((zQ (by omega)).trans hk)
   ·refine⟨some c,_,by have:=run_endLoop (P:=P) hl (by rw[dw];simp);rw[dw] at this;exact this,?_⟩;exact jl _ c pre S _ (bQ _) hD aF fM ((fX c) _ _ _ _ hi (gK _ (by omega) hL)) ((zQ (by omega)).trans hk)
  ·rintro pre Si A1 B1 ⟨S,bK,hD,hL,aF,hi,hl,hk⟩ ak;have aa:w.heap.size+1<A1.heap.size:=(eQ.1 hl).1;exact⟨S,bK,hD,hL,aF,hI _ _ _ _ hi (ak.weaken (by omega) (λk e=>(bK k).2 (.inl e))),(ak.keep _ aa (.inl (by omega))).trans hl,(ak.keep _ (by omega) (.inl (by omega))).trans hk⟩
  ·rintro pre Si A1 B1 ⟨S,c,bK,hD,hL,aF,hi,hl,hk⟩ ak;have aa:w.heap.size+1<A1.heap.size:=(eQ.1 hl).1;exact⟨S,c,bK,hD,hL,aF,fX c _ _ _ _ hi (ak.weaken (by omega) (λk e=>(bK k).2 (.inl e))),(ak.keep _ aa (.inl (by omega))).trans hl,(ak.keep _ (by omega) (.inl (by omega))).trans hk⟩
  ·
   rintro pre x Si W aJ ⟨S,bK,hD,hL,aF,hi,hl,hk⟩ eh DO;have aa:w.heap.size+1<W.heap.size:=(eQ.1 hl).1;have u6:∀ k,S k->k<W.heap.size:=λk e=>eh k ((bK k).2 (.inl e));have hy:=run_yield (P:=P) (args:=encs x) hl (by rw[dw];exact eS x);rw[dw] at hy;refine⟨fn,_,assign,body,hy,roundIn_of_wpIn fY (wpIn_mono (vd _ pre x S W aJ hi u6) ?_)⟩;intro e a1 Wa hq
   cases e with
   | normal=>
    obtain⟨S1,dL,aN,ww,o4⟩:=hq;have pt:¬ S1 w.heap.size:=λe=>by rcases aN _ e with e | e;exact hD e;omega
    have lO:¬ S1 (w.heap.size+1):=λe=>by rcases aN _ e with e | e;exact hL e;omega
    have pq:Wa.heap[w.heap.size+1]?=some (.loop (rec .ready none)):=(dL.keep _ aa hL).trans hl;have vH:Wa.heap[w.heap.size]?=some (.deferred (some [])):=(dL.keep _ (by omega) hD).trans hk;have pr:w.heap.size+1<Wa.heap.size:=(eQ.1 pq).1;refine⟨_,run_beginRound pq (by rw[dw]),?_⟩;have hb:=vk (w.heap.size+1) pre x S1 a1 (Wa.putObj (w.heap.size+1) (.loop { rec .ready none with state:=.busy })) aJ (hA _ _ _ _ _ _ o4 (gK _ (by omega) lO)) (λk e=>by simpa using ww k e);refine wpIn_mono hb ?_;have fin:∀ (jump:Option Code) (W3:World) (S3:Nat->Prop),RdStep S1 (Wa.putObj (w.heap.size+1) (.loop { rec .ready none with state:=.busy })) W3->(∀ k,S3 k->S1 k\/(Wa.putObj (w.heap.size+1) (.loop { rec .ready none with state:=.busy })).heap.size<=k)->(∀ k,S3 k->k<W3.heap.size)->
     (Instr.endRound (w.heap.size+1) jump).run P W3 = .ok (.bool jump.isNone) (W3.putObj (w.heap.size+1) (.loop (rec (if jump.isNone then .ready else .done) jump)))/\
     (W3.putObj (w.heap.size+1) (.loop (rec (if jump.isNone then .ready else .done) jump))).heap[w.heap.size+1]?=some (.loop (rec (if jump.isNone then .ready else .done) jump))/\
     (W3.putObj (w.heap.size+1) (.loop (rec (if jump.isNone then .ready else .done) jump))).heap[w.heap.size]?=some (.deferred (some []))/\
     ¬ S3 w.heap.size/\¬ S3 (w.heap.size+1)/\(∀ k,S3 k->S k\/W.heap.size<=k)/\
     RdStep Si W (W3.putObj (w.heap.size+1) (.loop (rec (if jump.isNone then .ready else .done) jump))):=λjump W3 S3 bE bM bF=>by
     have fZ:(Wa.putObj (w.heap.size+1) (.loop { rec .ready none with state:=.busy })).heap[w.heap.size+1]?=some (.loop { rec .ready none with state:=.busy }):=World.putObj_heap_same pr;have fi:(Wa.putObj (w.heap.size+1) (.loop { rec .ready none with state:=.busy })).heap[w.heap.size]?=some (.deferred (some [])):=(zQ (by omega)).trans vH;have gE:=(bE.keep _ (by simpa using pr) lO).trans fZ;have iO:=(bE.keep _ (by simp;omega) pt).trans fi;have cG:=(eQ.1 gE).1
     have:=run_endRound (P:=P) jump gE
     rw[dw] at this |-;have td:=bE.size;have q9:=dL.size;simp only[World.putObj_size] at td bM;refine⟨this,World.putObj_heap_same cG,(zQ (by omega)).trans iO,λe=>?_,λe=>?_,λk e=>?_,?_⟩
     ·rcases bM _ e with e | e;exact pt e;omega
     ·rcases bM _ e with e | e;exact lO e;omega
     ·rcases bM _ e with e | e
      ·exact aN _ e
      ·right;omega
     ·refine⟨bE.os.trans dL.os,bE.tape.trans dL.tape,bE.output.trans dL.output,by simp;omega,λk hk' pu=>?_,yQ dL.drawn bE.drawn⟩;have kP:k≠w.heap.size+1:=λe=>pu ((bK k).2 (.inr e));have pw:¬ S k:=λe=>pu ((bK k).2 (.inl e));have vP:¬ S1 k:=λe=>by rcases aN _ e with e | e;exact pw e;omega
      exact (zQ kP).trans ((bE.keep k (by simp;omega) vP).trans ((zQ kP).trans (dL.keep k hk' pw)))
    have fin2:∀ (S3:Nat->Prop) (W3:World) (o:Obj),(∀ k,S3 k->k<W3.heap.size)->W.heap.size<=W3.heap.size->(∀ k,S3 k->S k\/W.heap.size<=k)->
     (∀ k,(S3 k\/k=w.heap.size+1)->Si k\/W.heap.size<=k)/\(∀ k,(S3 k\/k=w.heap.size+1)->k<(W3.putObj (w.heap.size+1) o).heap.size):=λS3 W3 o h1 h2 h3=>
     ⟨λk e=>by rcases e with e | e;exact (h3 k e).imp (λe'=>(bK k).2 (.inl e')) id;exact .inl ((bK k).2 (.inr e)),λk e=>by
      simp only[World.putObj_size];rcases e with e | e
      ·exact h1 k e
      ·omega⟩
    have sub3:∀ (S3:Nat->Prop),(∀ k,S3 k->S k\/W.heap.size<=k)->∀ k,S3 k->S0 k\/w.heap.size<=k:=λS3 h k e=>by
     rcases h k e with e | e
     ·exact aF k e
     ·right;omega
    rintro e a3 W3 hp
    cases e with
    | normal=>
     obtain⟨S3,bE,bM,bF,ij⟩:=hp;obtain⟨hr,gW,gV,gF,el,cw,an⟩:=fin none W3 S3 bE bM bF;have ag:W.heap.size<=W3.heap.size:=by simpa using an.size
     refine⟨_,_,hr,λk=>S3 k\/k=w.heap.size+1,an,(fin2 S3 W3 (.deferred none) bF ag cw).1,(fin2 S3 W3 _ bF ag cw).2,.inl ⟨rfl,S3,λ_=>Iff.rfl,gF,el,sub3 S3 cw,hI _ _ _ _ ij (gK _ (by omega) el),gW,gV⟩⟩
    | ret=>
     obtain⟨S3,bE,bM,bF,ij⟩:=hp;obtain⟨hr,gW,gV,gF,el,cw,an⟩:=fin (some .ret) W3 S3 bE bM bF;have ag:W.heap.size<=W3.heap.size:=by simpa using an.size
     refine⟨_,_,hr,λk=>S3 k\/k=w.heap.size+1,an,(fin2 S3 W3 (.deferred none) bF ag cw).1,(fin2 S3 W3 _ bF ag cw).2,.inr ⟨rfl,S3,.ret,λ_=>Iff.rfl,gF,el,sub3 S3 cw,fX _ _ _ _ _ ij (gK _ (by omega) el),gW,gV⟩⟩
    | exit id=>
     obtain⟨S3,bE,bM,bF,ij⟩:=hp;obtain⟨hr,gW,gV,gF,el,cw,an⟩:=fin (some (.exit id)) W3 S3 bE bM bF;have ag:W.heap.size<=W3.heap.size:=by simpa using an.size
     refine⟨_,_,hr,λk=>S3 k\/k=w.heap.size+1,an,(fin2 S3 W3 (.deferred none) bF ag cw).1,(fin2 S3 W3 _ bF ag cw).2,.inr ⟨rfl,S3,.exit id,λ_=>Iff.rfl,gF,el,sub3 S3 cw,fX _ _ _ _ _ ij (gK _ (by omega) el),gW,gV⟩⟩
    | goto t=>exact hp.elim
    | panic ch=>exact hp.elim
    | outgrown=>exact hp.elim
   | ret=>exact hq.elim
   | exit id=>exact hq.elim
   | goto t=>exact hq.elim
   | panic ch=>exact hq.elim
   | outgrown=>exact hq.elim
  ·rintro k (e | rfl)
   ·exact lH k e
   ·omega
  ·rintro k (e | rfl)
   ·have:=ie k e;omega
   ·omega
  ·exact⟨S0,λ_=>Iff.rfl,λe=>by have:=ie _ e;omega,λe=>by have:=ie _ e;omega,λ_ e=>.inl e,lG,o7,uP⟩
theorem fd{B:Nat}{S:Nat->Prop}{W W':World}{b:Nat}{t:TypeId}{v:Value}(h:Boxed W b t v)(hs:ItStep B S W W')(hb:S b):Boxed W' b t v:=(hs.keep b h.lt (.inr hb)).trans h
theorem oV{n B:Nat}{S:Nat->Prop}{w W W':World}(h:Below n w W)(hs:ItStep B S W W')(hB:n<=B)(hn:n<=w.heap.size):Below n w W':=
 ⟨hs.os.trans h.os,hs.tape.trans h.tape,hs.output.trans h.output,yQ h.size hs.size,λk hk=>(hs.keep k (by have:=h.size;omega) (.inl (by omega))).trans (h.block k hk),yQ h.drawn hs.drawn⟩
theorem aX{n:Nat}{W W':World}{b:Nat}{t:TypeId}{v:Value}(h:Boxed W b t v)(hs:Below n W W')(hb:b<n):Boxed W' b t v:=(hs.block b hb).trans h
theorem bn{W:World}{b:Nat}{t:TypeId}{v:Value}(h:Boxed W b t v){p:Addr}(hp:b≠p.block)(u:Value):Boxed (W.setCell p u) b t v:=(wQ W p u b hp).trans h
theorem j6{P:Program}{fn:Func}{R:Ending->World->Prop}{tmps:Array Value}{w:World}{v:Value}(n5:(results fn tmps).run P w = .ok v w)(hR:R (.returned v) w) :
 bodyPostM Fence.wide 0 P fn R .ret { tmps:=tmps,defers:=[] } w:=⟨_,n5,hR⟩
theorem kH{P:Program}{fn:Func}{R:Ending->World->Prop}{tmps:Array Value}{W:World}{D:Nat}{v:Value}(hK:W.heap[D]?=some (.deferred (some [])))
 (n5:(results fn tmps).run P (W.putObj D (.deferred none)) = .ok v (W.putObj D (.deferred none))) (hR:R (.returned v) (W.putObj D (.deferred none))) :
 bodyPostM Fence.wide 0 P fn R .ret { tmps:=tmps,defers:=[{ target:=.collected D,args:=#[] }] } W:=
 ⟨by simp,.inl ⟨_,_,rfl,run_takeDeferred hK,_,n5,hR⟩⟩
theorem kE{n D:Nat}{w W:World}(h:Below n w W)(hD:n<=D)(o:Obj):Below n w (W.putObj D o):=
 ⟨h.os,h.tape,h.output,by simpa using h.size,λk hk=>(zQ (by omega)).trans (h.block k hk),h.drawn⟩
theorem lC{W:World}{b D:Nat}{t:TypeId}{v:Value}(h:Boxed W b t v)(hD:b≠D)(o:Obj):Boxed (W.putObj D o) b t v:=(zQ hD).trans h
theorem xL{α:Type}{P:Program}{g:Operand}{ps:Array Tmp}{assign body:Code}{Q:Exit->Act->World->Prop}{a:Act}{w:World}
 {gf:FuncId} {first captured:Array Value} (hg:a.eval g = .func (.func gf) first captured) (eg:∀ args w,(callFunc gf args).run P w = .ok (.enter gf args) w)
 {mk:Value->Array Value} {encs:α->Array Value} {xs:List α} {n₀:Nat} {w0:World} (f9:∀ y,mk y=first ++ #[y]++captured)
 (hit:oP P gf mk encs xs n₀ w0) (bW:Below n₀ w0 w) (jJ:n₀<=w.heap.size) (eS:∀ x,(encs x).size=ps.size)
 (I:List α->(Nat->Prop)->World->Prop) (Ix:Code->List α->(Nat->Prop)->World->Prop)
 (hI:dE w.heap.size I) (fX:∀ c,dE w.heap.size (Ix c))
 (S0:Nat->Prop) (lH:∀ k,S0 k->n₀<=k) (ie:∀ k,S0 k->k<w.heap.size) (h0:I [] S0 w)
 (vZ:∀ (l0:Nat) (pre:List α) (x:α) (S:Nat->Prop) (W:World),pre ++ [x] <+: xs->I pre S W->(∀ k,S k->k<W.heap.size)->
   assign.wpIn (Fence.wide.inRound l0) 0 P (Exit.then (λa₁ W₁=>∃ S',RdStep S W W₁/\(∀ k,S' k->S k\/W.heap.size<=k)/\(∀ k,S' k->k<W₁.heap.size)/\
    ∀ l W₂,ItStep w.heap.size S' W₁ W₂->body.wpIn (Fence.wide.inRound l) 0 P (jY I Ix (pre ++ [x]) S' W₂) a₁ W₂) (λ_ _ _=>False))
    { tmps:=(ps.zip (encs x)).foldl (λt (p,v)=>t.setIfInBounds p v) a.tmps,defers:=[] } W)
 (kf:∀ (D:Nat) (S:Nat->Prop) (W:World),w.heap.size<=D->¬ S D->(∀ k,S k->S0 k\/w.heap.size<=k)->I xs S W->W.heap[D]?=some (.deferred (some []))->
   Q .normal { a with defers:={ target:=.collected D,args:=#[] } :: a.defers } W)
 (jl:∀ (D:Nat) (c:Code) (pre:List α) (S:Nat->Prop) (W:World),w.heap.size<=D->¬ S D->(∀ k,S k->S0 k\/w.heap.size<=k)->pre <+: xs->Ix c pre S W->W.heap[D]?=some (.deferred (some []))->
   c.wpIn Fence.wide 0 P Q { a with defers:={ target:=.collected D,args:=#[] } :: a.defers } W) :
 (Code.rangeFunc g ps assign body).wpIn Fence.wide 0 P Q a w:=
 Fs hg eg f9 hit bW jJ eS I Ix (λpre x S a₁ W=>∀ l W₂,ItStep w.heap.size S W W₂->body.wpIn (Fence.wide.inRound l) 0 P (jY I Ix (pre ++ [x]) S W₂) a₁ W₂)
  hI fX (λ_ _ _ _ _ _ h hs l W₂ h2=>h l W₂ (hs.trans h2)) S0 lH ie h0 vZ (λl _ _ _ _ W _ h _=>h l W (ItStep.refl _ _ _)) kf jl
def bU(w:World):Type:={ x:World // Below w.heap.size w x }
def bU.w{w:World}(g:bU w):World:=g.1
theorem bU.below{w:World}(g:bU w):Below w.heap.size w g.w:=g.2
instance (w:World):Nonempty (bU w):=⟨⟨w,vQ _ _⟩⟩
theorem bU.cell{w:World}(g:bU w)(p:Addr)(h:p.block<w.heap.size):g.w.cell? p=w.cell? p:=g.2.cell h
theorem bU.frozen{w:World}(g:bU w)(p:Addr)(h:p.block<w.heap.size):g.w.frozen? p=w.frozen? p:=g.2.frozen h
theorem bU.size{w:World}(g:bU w):w.heap.size<=g.w.heap.size:=g.2.size
def tT(w:World)(w':World):Prop:=∃ g:bU w,w'=g.w
theorem tT.of{w w':World}(h:Below w.heap.size w w'):tT w w':=⟨⟨w',h⟩,rfl⟩
theorem Calls.grow_of{P:Program}{f:FuncId}{args:Array Value}{w:World}{g:bU w}{v:Value}
 (h:Calls P f args g.w λe w'=>e = .returned v/\Below g.w.heap.size g.w w'):Calls P f args g.w λe w''=>e = .returned v/\∃ g':bU w,w''=g'.w:=
 h.mono λ_ w' ⟨he,hm⟩=>⟨he,⟨w',g.2.trans (hm.mono g.2.size)⟩,rfl⟩
section
variable {P:Program}
theorem ou{id:Nat}{Q:Exit->Act->World->Prop}{a:Act}{w:World}{l:List Oper}(hm:P.follows .mixedOrders=true)(hB:Region.lexB .any l.toArray=true)
 (h:wpQuiet P l.toArray (λw'=>∃ g:bU w,w'=g.w) (λa'=>∀ w',(∃ g:bU w,w'=g.w)->Q .normal a' w') l a):(Code.region id l.toArray true).wp P Q a w:=
 wp_region_quiet (C:=λw'=>∃ g:bU w,w'=g.w) hm hB ⟨⟨_,(vQ w.heap.size w).drew⟩,rfl⟩ (by simpa using h)
end
theorem oU{W w1:World}(hb:Below W.heap.size W w1):(∀ b o,b<W.heap.size->w1.cell? ⟨b,o,none⟩=W.cell? ⟨b,o,none⟩)/\(∀ b o,b<W.heap.size->w1.frozen? ⟨b,o,none⟩=W.frozen? ⟨b,o,none⟩):=
 ⟨λb o h=>hb.cell (p:=⟨b,o,none⟩) h,λb o h=>hb.frozen (p:=⟨b,o,none⟩) h⟩
end D
namespace D
open Go.RowKit Go.Shelf
attribute [local go_sem] Oper.semAt_some
abbrev aM(l:List UInt8):Value:=.string ⟨l.toArray⟩
def E9:Value->Nat
 | .string s=>s.size
 | _=>0
def BI(t:ByteArray)(J:List (List UInt8)->(Nat->Prop)->World->Prop)(S:Nat->Prop)(W:World)(v:Value)(wr:World):Prop:=
 ∃ (pre:List (List UInt8)) (r:ByteArray) (S1:Nat->Prop),v = .string r/\r.size<=140737488355328/\Np.back t.data.toList=pre++(Np.aS r.data.toList).reverse/\
   J pre S1 wr/\(∀ k,S1 k->k<wr.heap.size)/\W.heap.size<=wr.heap.size/\(∀ k,S1 k->S k\/W.heap.size<=k)
theorem yZ(t:ByteArray)(ht:t.size<=140737488355328)(n₀:Nat)(w:World) :
 oP prog 215 (λy=>#[.string t,y]) (λx:List UInt8=>#[aM x]) (Np.back t.data.toList) n₀ w:=by
 intro l J Jx S W hW hJ zy hY hS hS' h0;refine callsIn_of_wp func215 rfl trivial ?_ rfl;simp only[ntmps215,List.size_toArray,List.length_cons,List.length_nil,Nat.reduceAdd,Nat.reduceSub,Array.replicate_succ,Array.replicate_zero,List.push_toArray,List.append_toArray,List.nil_append,List.cons_append];gi_wp2_with fail
 ·have he:(t.toList == [46])=true:=by assumption
  have fg:t.data.toList = [46]:=by rw[<-dQ];simpa using he
  have hb:Np.back t.data.toList = []:=by simp[Np.back,fg]
  refine bodyPost_ret (results_none rfl _ _ _) rfl ?_;exact⟨⟨_,rfl⟩,.inl ⟨S,by rw[hb];exact h0,λk e=>.inl e⟩⟩
 ·have he:(t.toList == [46])=false:=by assumption
  have hne:¬ t.data.toList = [46]:=by rw[<-dQ];simpa using he
  have hb:Np.back t.data.toList=(Np.aS t.data.toList).reverse:=by simp[Np.back,hne]
  have HB:=jq hb;clear hb;gi_loopw [4] (λv wr=>BI t J S W v wr) (λv _=>E9 v)
  case atStart=>exact⟨[],t,S,rfl,ht,by simpa using HB.out,h0,hS',bQ _,λ_ e=>.inl e⟩
  case round=>
   obtain⟨pre,r,S1,rfl,hr,fM,hj,aa,ag,aF⟩:=hrel;have HP:=jq fM;clear fM;gi_wp2_with fail;refine⟨trivial,rfl,?_⟩;refine (callsIn_wide.2 (ER _ hr _ (by decide) (by decide) _)).mono ?_;rintro e w' ⟨q,hq,rfl,rfl⟩;rcases hq with ⟨rfl,gG⟩ | ⟨a,b,fe,kg,rfl⟩
   ·have aN:Np.aS r.data.toList = [r.data.toList]:=Np.tG gG;have hx:pre ++ [r.data.toList] <+: Np.back t.data.toList:=by rw[HP.out,aN];exact List.prefix_refl _
    obtain⟨fn,tmps,assign,body,hy,hR⟩:=hY pre r.data.toList S1 wr hx hj aa ag;have lV:Sem.run prog (Instr.yield l #[.string r]) wr = .ok (.round l fn tmps assign body) wr:=hy;clear hy;have HX:=jq hx;clear hx;have HS:=jq aN;clear aN gG;gi_wp2_with fail;refine⟨rfl,hR.mono ?_⟩;rintro e W3 ⟨S3,an,bS,cG,(⟨rfl,eM⟩ | ⟨rfl,eN⟩)⟩
    all_goals
     gi_wp2_with fail;refine bodyPost_ret (results_none rfl _ _ _) rfl ?_
    ·refine⟨⟨_,rfl⟩,.inl ⟨S3,?_,λk e=>?_⟩⟩
     ·rw[HP.out,HS.out];exact eM
     ·rcases bS k e with e | e
      ·exact aF k e
      ·right;omega
    ·refine⟨⟨_,rfl⟩,.inr ⟨_,S3,HX.out,eN,λk e=>?_⟩⟩;rcases bS k e with e | e
     ·exact aF k e
     ·right;omega
   ·have jm:a.length+1+b.length=r.size:=by rw[<-bG,fe];simp;omega
    have aN:Np.aS r.data.toList=Np.aS a ++ [b]:=by rw[fe];exact (Np.Bx a b).trans (by rw[Np.tG kg])
    have hx:pre ++ [b] <+: Np.back t.data.toList:=by rw[HP.out,aN];simp
    have lU:(r.extract (a.length+1) r.size).data.toList=b:=by rw[zi,fe];simp
    have mI:(r.extract 0 a.length).data.toList=a:=by rw[zj,fe];simp
    have wD:(r.extract 0 a.length).size=a.length:=by rw[<-bG,mI]
    obtain⟨fn,tmps,assign,body,hy,hR⟩:=hY pre b S1 wr hx hj aa ag;have lV:Sem.run prog (Instr.yield l #[.string (r.extract (a.length+1) r.size)]) wr = .ok (.round l fn tmps assign body) wr:=by
     have:aM b = .string (r.extract (a.length+1) r.size):=by show Value.string _=_;congr 1;exact mY (by rw[lU])
     simp only[this] at hy;exact hy
    clear hy;have HX:=jq hx;have HS:=jq aN;have HA:=jq mI;have uw:=jq wD;clear hx aN lU mI wD fe kg;have j9:a.length<=140737488355328:=by omega
    have I2:a.length+1<=r.size:=by omega
    have H2:=jq jm;clear jm;gi_wp2_with fail;refine⟨rfl,hR.mono ?_⟩;rintro e W3 ⟨S3,an,bS,cG,(⟨rfl,eM⟩ | ⟨rfl,eN⟩)⟩
    ·have Tu:=an.size;gi_wp2_with fail;go_roundw
     case rel=>
      refine⟨pre ++ [b],r.extract 0 a.length,S3,rfl,by rw[uw.out];exact j9,?_,eM,cG,by omega,λk e=>?_⟩
      ·rw[HP.out,HS.out,HA.out];simp
      ·rcases bS k e with e | e
       ·exact aF k e
       ·right;omega
     case measure=>show (r.extract 0 a.length).size<r.size;rw[uw.out];omega
    ·gi_wp2_with fail;refine bodyPost_ret (results_none rfl _ _ _) rfl ?_;refine⟨⟨_,rfl⟩,.inr ⟨_,S3,HX.out,eN,λk e=>?_⟩⟩;rcases bS k e with e | e
     ·exact aF k e
     ·right;omega
end D
section
open Go.RowKit
structure ItStep(B:Nat)(S:Nat->Prop)(W W':World):Prop where
 os:W'.os=W.os
 tape:W'.tape=W.tape
 output:W'.output=W.output
 size:W.heap.size<=W'.heap.size
 keep:∀ k,k<W.heap.size->(k<B\/S k)->W'.heap[k]?=W.heap[k]?
structure RdStep(S:Nat->Prop)(W W':World):Prop where
 os:W'.os=W.os
 tape:W'.tape=W.tape
 output:W'.output=W.output
 size:W.heap.size<=W'.heap.size
 keep:∀ k,k<W.heap.size->¬ S k->W'.heap[k]?=W.heap[k]?
theorem ItStep.refl(B:Nat)(S:Nat->Prop)(W:World):ItStep B S W W:=⟨rfl,rfl,rfl,bQ _,λ_ _ _=>rfl⟩
theorem RdStep.refl(S:Nat->Prop)(W:World):RdStep S W W:=⟨rfl,rfl,rfl,bQ _,λ_ _ _=>rfl⟩
theorem ItStep.trans{B:Nat}{S:Nat->Prop}{A W C:World}(h:ItStep B S A W)(k:ItStep B S W C):ItStep B S A C:=
 ⟨k.os.trans h.os,k.tape.trans h.tape,k.output.trans h.output,yQ h.size k.size,λi hi hs=>(k.keep i (lQ hi h.size) hs).trans (h.keep i hi hs)⟩
theorem RdStep.trans{S S':Nat->Prop}{A W C:World}(h:RdStep S A W)(k:RdStep S' W C)(hS:∀ i,S' i->S i\/A.heap.size<=i):RdStep S A C:=
 ⟨k.os.trans h.os,k.tape.trans h.tape,k.output.trans h.output,yQ h.size k.size,λi hi hs=>
  (k.keep i (lQ hi h.size) (λe=>by rcases hS i e with e | e;exact hs e;omega)).trans (h.keep i hi hs)⟩
theorem RdStep.mono{S S':Nat->Prop}{A W:World}(h:RdStep S A W)(hS:∀ i,S i->S' i):RdStep S' A W:=
 ⟨h.os,h.tape,h.output,h.size,λi hi hs=>h.keep i hi (λe=>hs (hS i e))⟩
theorem ItStep.of_below{B:Nat}{S:Nat->Prop}{A W:World}(h:Below A.heap.size A W):ItStep B S A W:=
 ⟨h.os,h.tape,h.output,h.size,λk hk _=>h.block k hk⟩
theorem RdStep.of_below{S:Nat->Prop}{A W:World}(h:Below A.heap.size A W):RdStep S A W:=
 ⟨h.os,h.tape,h.output,h.size,λk hk _=>h.block k hk⟩
theorem RdStep.below{S:Nat->Prop}{A W:World}{n:Nat}(h:RdStep S A W)(hn:n<=A.heap.size)(hS:∀ k,S k->n<=k):Below n A W:=
 ⟨h.os,h.tape,h.output,h.size,λk hk=>h.keep k (by omega) (λe=>by have:=hS k e;omega)⟩
theorem RdStep.setCell{S:Nat->Prop}{A W:World}(h:RdStep S A W){p:Addr}(hp:S p.block\/A.heap.size<=p.block)(u:Value):RdStep S A (W.setCell p u):=
 ⟨h.os,h.tape,h.output,by simpa [World.setCell] using h.size,λk hk hs=>(wQ _ _ _ _ (by rintro rfl;rcases hp with hp | hp;exact hs hp;omega)).trans (h.keep k hk hs)⟩
theorem RdStep.alloc{S:Nat->Prop}{A W:World}(h:RdStep S A W)(o:Obj):RdStep S A (W.alloc o):=
 ⟨h.os,h.tape,h.output,yQ h.size (by simp),λk hk hs=>(Below.heap_alloc _ _ _ (lQ hk h.size)).trans (h.keep k hk hs)⟩
theorem RdStep.drew{S:Nat->Prop}{A W:World}(h:RdStep S A W):RdStep S A W.drew:=⟨h.os,h.tape,h.output,h.size,h.keep⟩
theorem RdStep.grown{S:Nat->Prop}{A W C:World}{row:Option Nat}(h:RdStep S A W)(hg:W.grownBy C row)(hr:∀ k,row=some k->S k\/A.heap.size<=k):RdStep S A C:=
 ⟨hg.os.trans h.os,hg.tape.trans h.tape,hg.output.trans h.output,yQ h.size hg.size,λk hk hs=>
  (hg.block k (lQ hk h.size) (λe=>by rcases hr k e.symm with e' | e';exact hs e';omega)).trans (h.keep k hk hs)⟩
theorem RdStep.then_below{S:Nat->Prop}{A W C:World}(h:RdStep S A W)(k:Below W.heap.size W C):RdStep S A C:=
 ⟨k.os.trans h.os,k.tape.trans h.tape,k.output.trans h.output,yQ h.size k.size,λi hi hs=>(k.block i (lQ hi h.size)).trans (h.keep i hi hs)⟩
def dE{β:Type}(B:Nat)(J:β->(Nat->Prop)->World->Prop):Prop:=∀ s S W W',J s S W->ItStep B S W W'->J s S W'
def yR{α:Type}(J Jx:List α->(Nat->Prop)->World->Prop)(pre:List α)(x:α)(S:Nat->Prop)(W:World)(e:Ending)(W':World):Prop:=
 ∃ S':Nat->Prop,RdStep S W W'/\(∀ k,S' k->S k\/W.heap.size<=k)/\(∀ k,S' k->k<W'.heap.size)/\
   ((e = .returned (.bool true)/\J (pre ++ [x]) S' W')\/(e = .returned (.bool false)/\Jx (pre ++ [x]) S' W'))
def oP{α:Type}(P:Program)(gf:FuncId)(mk:Value->Array Value)(encs:α->Array Value)(xs:List α)(n₀:Nat)(w:World):Prop:=
 ∀ (l:Nat) (J Jx:List α->(Nat->Prop)->World->Prop) (S:Nat->Prop) (W:World),Below n₀ w W->
   dE W.heap.size J->dE W.heap.size Jx->
   (∀ pre x S1 W1,pre ++ [x] <+: xs->J pre S1 W1->(∀ k,S1 k->k<W1.heap.size)->W.heap.size<=W1.heap.size->
     YieldAt Fence.wide 0 P l (encs x) W1 (yR J Jx pre x S1 W1))->
   (∀ k,S k->n₀<=k)->(∀ k,S k->k<W.heap.size)->J [] S W->
   CallsIn Fence.wide 0 P gf (mk (.func (.yield l) #[] #[])) W λe W'=>(∃ v,e = .returned v)/\
    ((∃ S',J xs S' W'/\(∀ k,S' k->S k\/W.heap.size<=k))\/(∃ pre S',pre <+: xs/\Jx pre S' W'/\(∀ k,S' k->S k\/W.heap.size<=k)))
def jY{α:Type}(I:List α->(Nat->Prop)->World->Prop)(Ix:Code->List α->(Nat->Prop)->World->Prop)(xs:List α)(S:Nat->Prop)(W:World):Exit->Act->World->Prop
 | .normal,_,W'=>∃ S',RdStep S W W'/\(∀ k,S' k->S k\/W.heap.size<=k)/\(∀ k,S' k->k<W'.heap.size)/\I xs S' W'
 | .ret,_,W'=>∃ S',RdStep S W W'/\(∀ k,S' k->S k\/W.heap.size<=k)/\(∀ k,S' k->k<W'.heap.size)/\Ix .ret xs S' W'
 | .exit id,_,W'=>∃ S',RdStep S W W'/\(∀ k,S' k->S k\/W.heap.size<=k)/\(∀ k,S' k->k<W'.heap.size)/\Ix (.exit id) xs S' W'
 | _,_,_=>False
theorem gK{B:Nat}{S:Nat->Prop}{W:World}{l:Nat}(o:Obj)(hl:B<=l)(hS:¬ S l):ItStep B S W (W.putObj l o):=
 ⟨rfl,rfl,rfl,by simp,λk _ hk=>zQ (by rintro rfl;rcases hk with hk | hk;omega;exact hS hk)⟩
theorem oh{B:Nat}{S:Nat->Prop}{W:World}(o:Obj):ItStep B S W (W.alloc o):=
 ⟨rfl,rfl,rfl,by simp,λk hk _=>Below.heap_alloc _ _ _ hk⟩
theorem ItStep.weaken{B B':Nat}{S S':Nat->Prop}{W W':World}(h:ItStep B S W W')(hB:B'<=B)(hS:∀ k,S' k->S k):ItStep B' S' W W':=
 ⟨h.os,h.tape,h.output,h.size,λk hk hs=>h.keep k hk (hs.imp (λe=>by omega) (hS k))⟩
theorem Fs{α:Type}{P:Program}{g:Operand}{ps:Array Tmp}{assign body:Code}{Q:Exit->Act->World->Prop}{a:Act}{w:World}
 {gf:FuncId} {first captured:Array Value} (hg:a.eval g = .func (.func gf) first captured) (eg:∀ args w,(callFunc gf args).run P w = .ok (.enter gf args) w)
 {mk:Value->Array Value} {encs:α->Array Value} {xs:List α} {n₀:Nat} {w0:World} (f9:∀ y,mk y=first ++ #[y]++captured)
 (hit:oP P gf mk encs xs n₀ w0) (bW:Below n₀ w0 w) (jJ:n₀<=w.heap.size) (eS:∀ x,(encs x).size=ps.size)
 (I:List α->(Nat->Prop)->World->Prop) (Ix:Code->List α->(Nat->Prop)->World->Prop) (A:List α->α->(Nat->Prop)->Act->World->Prop)
 (hI:dE w.heap.size I) (fX:∀ c,dE w.heap.size (Ix c)) (hA:∀ pre x S a' W W',A pre x S a' W->ItStep w.heap.size S W W'->A pre x S a' W')
 (S0:Nat->Prop) (lH:∀ k,S0 k->n₀<=k) (ie:∀ k,S0 k->k<w.heap.size) (h0:I [] S0 w)
 (vd:∀ (l:Nat) (pre:List α) (x:α) (S:Nat->Prop) (W:World),pre ++ [x] <+: xs->I pre S W->(∀ k,S k->k<W.heap.size)->
   assign.wpIn (Fence.wide.inRound l) 0 P (Exit.then (λa₁ W₁=>∃ S',RdStep S W W₁/\(∀ k,S' k->S k\/W.heap.size<=k)/\(∀ k,S' k->k<W₁.heap.size)/\A pre x S' a₁ W₁) (λ_ _ _=>False))
    { tmps:=(ps.zip (encs x)).foldl (λt (p,v)=>t.setIfInBounds p v) a.tmps,defers:=[] } W)
 (vk:∀ (l:Nat) (pre:List α) (x:α) (S:Nat->Prop) (a₁:Act) (W:World),pre ++ [x] <+: xs->A pre x S a₁ W->(∀ k,S k->k<W.heap.size)->
   body.wpIn (Fence.wide.inRound l) 0 P (jY I Ix (pre ++ [x]) S W) a₁ W)
 (kf:∀ (D:Nat) (S:Nat->Prop) (W:World),w.heap.size<=D->¬ S D->(∀ k,S k->S0 k\/w.heap.size<=k)->I xs S W->W.heap[D]?=some (.deferred (some []))->
   Q .normal { a with defers:={ target:=.collected D,args:=#[] } :: a.defers } W)
 (jl:∀ (D:Nat) (c:Code) (pre:List α) (S:Nat->Prop) (W:World),w.heap.size<=D->¬ S D->(∀ k,S k->S0 k\/w.heap.size<=k)->pre <+: xs->Ix c pre S W->W.heap[D]?=some (.deferred (some []))->
   c.wpIn Fence.wide 0 P Q { a with defers:={ target:=.collected D,args:=#[] } :: a.defers } W) :
 (Code.rangeFunc g ps assign body).wpIn Fence.wide 0 P Q a w:=by
 refine wpIn_rangeFunc ?_;intro fn fY;show ∃ (l:Nat) (mark:List Deferred) (w₁:World) (d:Deferred) (w₁':World) (f:FuncId) (args:Array Value) (w₂:World),(Instr.enterLoop fn a.tmps ps assign body none).run P w = .ok (l,mark) w₁/\_;obtain⟨rec,dw⟩:∃ rec:LoopState->Option Code->Loop,rec=λst pe=>{ state:=st,pending:=pe,fn,tmps:=a.tmps,params:=ps,assign,body,defers:=w.heap.size }:=⟨_,rfl⟩;obtain⟨W1,aw⟩:=abY ((w.alloc (.deferred (some []))).alloc (.loop (rec .ready none)));have ag:W1.heap.size=w.heap.size+2:=by rw[<-aw];simp
 have o7:W1.heap[w.heap.size+1]?=some (.loop (rec .ready none)):=by
  rw[<-aw];have:=World.alloc_heap_new (w.alloc (.deferred (some []))) (.loop (rec .ready none));rwa [World.size_alloc] at this
 have uP:W1.heap[w.heap.size]?=some (.deferred (some [])):=by
  rw[<-aw];exact (Below.heap_alloc _ _ _ (by simp)).trans (World.alloc_heap_new w _)
 have lG:I [] S0 W1:=by rw[<-aw];exact hI _ _ _ _ (hI _ _ _ _ h0 (oh _)) (oh _)
 have aq:Below n₀ w0 W1:=by
  rw[<-aw];exact bW.trans ((((vQ _ w).alloc (bQ _) _).alloc (by simp) _).mono jJ)
 refine⟨w.heap.size+1,[{ target:=.collected w.heap.size,args:=#[] }],W1,{ target:=.fn (.func gf) captured,args:=first ++ #[.func (.yield (w.heap.size+1)) #[] #[]] },W1,gf,
  first ++ #[.func (.yield (w.heap.size+1)) #[] #[]]++captured,W1,?_,?_,?_,?_,λh=>by simp[Fence.wide] at h,?_⟩
 ·rw[<-aw,dw];exact run_enterLoop_outer _ _ _ _ _
 ·simp only[resolve,hg];simp[go_sem]
 ·intro f' _;trivial
 ·simp[invoke,go_sem,eg]
 ·rw[<-f9];have key:=hit (w.heap.size+1)
   (λpre Si W=>∃ S:Nat->Prop,(∀ k,Si k↔S k\/k=w.heap.size+1)/\(¬ S w.heap.size)/\(¬ S (w.heap.size+1))/\(∀ k,S k->S0 k\/w.heap.size<=k)/\I pre S W/\W.heap[w.heap.size+1]?=some (.loop (rec .ready none))/\W.heap[w.heap.size]?=some (.deferred (some [])))
   (λpre Si W=>∃ (S:Nat->Prop) (c:Code),(∀ k,Si k↔S k\/k=w.heap.size+1)/\(¬ S w.heap.size)/\(¬ S (w.heap.size+1))/\(∀ k,S k->S0 k\/w.heap.size<=k)/\Ix c pre S W/\W.heap[w.heap.size+1]?=some (.loop (rec .done (some c)))/\W.heap[w.heap.size]?=some (.deferred (some [])))
   (λk=>S0 k\/k=w.heap.size+1) W1 aq ?_ ?_ ?_ ?_ ?_ ?_
  ·refine key.mono ?_;rintro e W2 ⟨⟨v,rfl⟩,(⟨S',⟨S,bK,hD,hL,aF,hi,hl,hk⟩,_⟩ | ⟨pre,S',fM,⟨S,c,bK,hD,hL,aF,hi,hl,hk⟩,_⟩)⟩
   ·refine⟨none,_,by have:=run_endLoop (P:=P) hl (by rw[dw];simp);rw[dw] at this;exact this,?_⟩;exact kf _ S _ (bQ _) hD aF (hI _ _ _ _ hi (gK _ (by omega) hL)) ((zQ (by omega)).trans hk)
   ·refine⟨some c,_,by have:=run_endLoop (P:=P) hl (by rw[dw];simp);rw[dw] at this;exact this,?_⟩;exact jl _ c pre S _ (bQ _) hD aF fM ((fX c) _ _ _ _ hi (gK _ (by omega) hL)) ((zQ (by omega)).trans hk)
  ·rintro pre Si A1 B1 ⟨S,bK,hD,hL,aF,hi,hl,hk⟩ ak;have aa:w.heap.size+1<A1.heap.size:=(eQ.1 hl).1;exact⟨S,bK,hD,hL,aF,hI _ _ _ _ hi (ak.weaken (by omega) (λk e=>(bK k).2 (.inl e))),(ak.keep _ aa (.inl (by omega))).trans hl,(ak.keep _ (by omega) (.inl (by omega))).trans hk⟩
  ·rintro pre Si A1 B1 ⟨S,c,bK,hD,hL,aF,hi,hl,hk⟩ ak;have aa:w.heap.size+1<A1.heap.size:=(eQ.1 hl).1;exact⟨S,c,bK,hD,hL,aF,fX c _ _ _ _ hi (ak.weaken (by omega) (λk e=>(bK k).2 (.inl e))),(ak.keep _ aa (.inl (by omega))).trans hl,(ak.keep _ (by omega) (.inl (by omega))).trans hk⟩
  ·
   rintro pre x Si W aJ ⟨S,bK,hD,hL,aF,hi,hl,hk⟩ eh DO;have aa:w.heap.size+1<W.heap.size:=(eQ.1 hl).1;have u6:∀ k,S k->k<W.heap.size:=λk e=>eh k ((bK k).2 (.inl e));have hy:=run_yield (P:=P) (args:=encs x) hl (by rw[dw];exact eS x);rw[dw] at hy;refine⟨fn,_,assign,body,hy,roundIn_of_wpIn fY (wpIn_mono (vd _ pre x S W aJ hi u6) ?_)⟩;intro e a1 Wa hq
   cases e with
   | normal=>
    obtain⟨S1,dL,aN,ww,o4⟩:=hq;have pt:¬ S1 w.heap.size:=λe=>by rcases aN _ e with e | e;exact hD e;omega
    have lO:¬ S1 (w.heap.size+1):=λe=>by rcases aN _ e with e | e;exact hL e;omega
    have pq:Wa.heap[w.heap.size+1]?=some (.loop (rec .ready none)):=(dL.keep _ aa hL).trans hl;have vH:Wa.heap[w.heap.size]?=some (.deferred (some [])):=(dL.keep _ (by omega) hD).trans hk;have pr:w.heap.size+1<Wa.heap.size:=(eQ.1 pq).1;refine⟨_,run_beginRound pq (by rw[dw]),?_⟩;have hb:=vk (w.heap.size+1) pre x S1 a1 (Wa.putObj (w.heap.size+1) (.loop { rec .ready none with state:=.busy })) aJ (hA _ _ _ _ _ _ o4 (gK _ (by omega) lO)) (λk e=>by simpa using ww k e);refine wpIn_mono hb ?_;have fin:∀ (jump:Option Code) (W3:World) (S3:Nat->Prop),RdStep S1 (Wa.putObj (w.heap.size+1) (.loop { rec .ready none with state:=.busy })) W3->(∀ k,S3 k->S1 k\/(Wa.putObj (w.heap.size+1) (.loop { rec .ready none with state:=.busy })).heap.size<=k)->(∀ k,S3 k->k<W3.heap.size)->
     (Instr.endRound (w.heap.size+1) jump).run P W3 = .ok (.bool jump.isNone) (W3.putObj (w.heap.size+1) (.loop (rec (if jump.isNone then .ready else .done) jump)))/\
     (W3.putObj (w.heap.size+1) (.loop (rec (if jump.isNone then .ready else .done) jump))).heap[w.heap.size+1]?=some (.loop (rec (if jump.isNone then .ready else .done) jump))/\
     (W3.putObj (w.heap.size+1) (.loop (rec (if jump.isNone then .ready else .done) jump))).heap[w.heap.size]?=some (.deferred (some []))/\
     ¬ S3 w.heap.size/\¬ S3 (w.heap.size+1)/\(∀ k,S3 k->S k\/W.heap.size<=k)/\
     RdStep Si W (W3.putObj (w.heap.size+1) (.loop (rec (if jump.isNone then .ready else .done) jump))):=λjump W3 S3 bE bM bF=>by
     have fZ:(Wa.putObj (w.heap.size+1) (.loop { rec .ready none with state:=.busy })).heap[w.heap.size+1]?=some (.loop { rec .ready none with state:=.busy }):=World.putObj_heap_same pr;have fi:(Wa.putObj (w.heap.size+1) (.loop { rec .ready none with state:=.busy })).heap[w.heap.size]?=some (.deferred (some [])):=(zQ (by omega)).trans vH;have gE:=(bE.keep _ (by simpa using pr) lO).trans fZ;have iO:=(bE.keep _ (by simp;omega) pt).trans fi;have cG:=(eQ.1 gE).1
     have:=run_endRound (P:=P) jump gE
     rw[dw] at this |-;have td:=bE.size;have q9:=dL.size;simp only[World.putObj_size] at td bM;refine⟨this,World.putObj_heap_same cG,(zQ (by omega)).trans iO,λe=>?_,λe=>?_,λk e=>?_,?_⟩
     ·rcases bM _ e with e | e;exact pt e;omega
     ·rcases bM _ e with e | e;exact lO e;omega
     ·rcases bM _ e with e | e
      ·exact aN _ e
      ·right;omega
     ·refine⟨bE.os.trans dL.os,bE.tape.trans dL.tape,bE.output.trans dL.output,by simp;omega,λk hk' pu=>?_⟩;have kP:k≠w.heap.size+1:=λe=>pu ((bK k).2 (.inr e));have pw:¬ S k:=λe=>pu ((bK k).2 (.inl e));have vP:¬ S1 k:=λe=>by rcases aN _ e with e | e;exact pw e;omega
      exact (zQ kP).trans ((bE.keep k (by simp;omega) vP).trans ((zQ kP).trans (dL.keep k hk' pw)))
    have fin2:∀ (S3:Nat->Prop) (W3:World) (o:Obj),(∀ k,S3 k->k<W3.heap.size)->W.heap.size<=W3.heap.size->(∀ k,S3 k->S k\/W.heap.size<=k)->
     (∀ k,(S3 k\/k=w.heap.size+1)->Si k\/W.heap.size<=k)/\(∀ k,(S3 k\/k=w.heap.size+1)->k<(W3.putObj (w.heap.size+1) o).heap.size):=λS3 W3 o h1 h2 h3=>
     ⟨λk e=>by rcases e with e | e;exact (h3 k e).imp (λe'=>(bK k).2 (.inl e')) id;exact .inl ((bK k).2 (.inr e)),λk e=>by
      simp only[World.putObj_size];rcases e with e | e
      ·exact h1 k e
      ·omega⟩
    have sub3:∀ (S3:Nat->Prop),(∀ k,S3 k->S k\/W.heap.size<=k)->∀ k,S3 k->S0 k\/w.heap.size<=k:=λS3 h k e=>by
     rcases h k e with e | e
     ·exact aF k e
     ·right;omega
    rintro e a3 W3 hp
    cases e with
    | normal=>
     obtain⟨S3,bE,bM,bF,ij⟩:=hp;obtain⟨hr,gW,gV,gF,el,cw,an⟩:=fin none W3 S3 bE bM bF;have ag:W.heap.size<=W3.heap.size:=by simpa using an.size
     refine⟨_,_,hr,λk=>S3 k\/k=w.heap.size+1,an,(fin2 S3 W3 (.deferred none) bF ag cw).1,(fin2 S3 W3 _ bF ag cw).2,.inl ⟨rfl,S3,λ_=>Iff.rfl,gF,el,sub3 S3 cw,hI _ _ _ _ ij (gK _ (by omega) el),gW,gV⟩⟩
    | ret=>
     obtain⟨S3,bE,bM,bF,ij⟩:=hp;obtain⟨hr,gW,gV,gF,el,cw,an⟩:=fin (some .ret) W3 S3 bE bM bF;have ag:W.heap.size<=W3.heap.size:=by simpa using an.size
     refine⟨_,_,hr,λk=>S3 k\/k=w.heap.size+1,an,(fin2 S3 W3 (.deferred none) bF ag cw).1,(fin2 S3 W3 _ bF ag cw).2,.inr ⟨rfl,S3,.ret,λ_=>Iff.rfl,gF,el,sub3 S3 cw,fX _ _ _ _ _ ij (gK _ (by omega) el),gW,gV⟩⟩
    | exit id=>
     obtain⟨S3,bE,bM,bF,ij⟩:=hp;obtain⟨hr,gW,gV,gF,el,cw,an⟩:=fin (some (.exit id)) W3 S3 bE bM bF;have ag:W.heap.size<=W3.heap.size:=by simpa using an.size
     refine⟨_,_,hr,λk=>S3 k\/k=w.heap.size+1,an,(fin2 S3 W3 (.deferred none) bF ag cw).1,(fin2 S3 W3 _ bF ag cw).2,.inr ⟨rfl,S3,.exit id,λ_=>Iff.rfl,gF,el,sub3 S3 cw,fX _ _ _ _ _ ij (gK _ (by omega) el),gW,gV⟩⟩
    | goto t=>exact hp.elim
    | panic ch=>exact hp.elim
    | outgrown=>exact hp.elim
   | ret=>exact hq.elim
   | exit id=>exact hq.elim
   | goto t=>exact hq.elim
   | panic ch=>exact hq.elim
   | outgrown=>exact hq.elim
  ·rintro k (e | rfl)
   ·exact lH k e
   ·omega
  ·rintro k (e | rfl)
   ·have:=ie k e;omega
   ·omega
  ·exact⟨S0,λ_=>Iff.rfl,λe=>by have:=ie _ e;omega,λe=>by have:=ie _ e;omega,λ_ e=>.inl e,lG,o7,uP⟩
theorem fd{B:Nat}{S:Nat->Prop}{W W':World}{b:Nat}{t:TypeId}{v:Value}(h:Boxed W b t v)(hs:ItStep B S W W')(hb:S b):Boxed W' b t v:=(hs.keep b h.lt (.inr hb)).trans h
theorem oV{n B:Nat}{S:Nat->Prop}{w W W':World}(h:Below n w W)(hs:ItStep B S W W')(hB:n<=B)(hn:n<=w.heap.size):Below n w W':=
 ⟨hs.os.trans h.os,hs.tape.trans h.tape,hs.output.trans h.output,yQ h.size hs.size,λk hk=>(hs.keep k (by have:=h.size;omega) (.inl (by omega))).trans (h.block k hk)⟩
theorem aX{n:Nat}{W W':World}{b:Nat}{t:TypeId}{v:Value}(h:Boxed W b t v)(hs:Below n W W')(hb:b<n):Boxed W' b t v:=(hs.block b hb).trans h
theorem bn{W:World}{b:Nat}{t:TypeId}{v:Value}(h:Boxed W b t v){p:Addr}(hp:b≠p.block)(u:Value):Boxed (W.setCell p u) b t v:=(wQ W p u b hp).trans h
theorem j6{P:Program}{fn:Func}{R:Ending->World->Prop}{tmps:Array Value}{w:World}{v:Value}(n5:(results fn tmps).run P w = .ok v w)(hR:R (.returned v) w) :
 bodyPostM Fence.wide 0 P fn R .ret { tmps:=tmps,defers:=[] } w:=⟨_,n5,hR⟩
theorem kH{P:Program}{fn:Func}{R:Ending->World->Prop}{tmps:Array Value}{W:World}{D:Nat}{v:Value}(hK:W.heap[D]?=some (.deferred (some [])))
 (n5:(results fn tmps).run P (W.putObj D (.deferred none)) = .ok v (W.putObj D (.deferred none))) (hR:R (.returned v) (W.putObj D (.deferred none))) :
 bodyPostM Fence.wide 0 P fn R .ret { tmps:=tmps,defers:=[{ target:=.collected D,args:=#[] }] } W:=
 ⟨by simp,.inl ⟨_,_,rfl,run_takeDeferred hK,_,n5,hR⟩⟩
theorem kE{n D:Nat}{w W:World}(h:Below n w W)(hD:n<=D)(o:Obj):Below n w (W.putObj D o):=
 ⟨h.os,h.tape,h.output,by simpa using h.size,λk hk=>(zQ (by omega)).trans (h.block k hk)⟩
theorem lC{W:World}{b D:Nat}{t:TypeId}{v:Value}(h:Boxed W b t v)(hD:b≠D)(o:Obj):Boxed (W.putObj D o) b t v:=(zQ hD).trans h
theorem xL{α:Type}{P:Program}{g:Operand}{ps:Array Tmp}{assign body:Code}{Q:Exit->Act->World->Prop}{a:Act}{w:World}
 {gf:FuncId} {first captured:Array Value} (hg:a.eval g = .func (.func gf) first captured) (eg:∀ args w,(callFunc gf args).run P w = .ok (.enter gf args) w)
 {mk:Value->Array Value} {encs:α->Array Value} {xs:List α} {n₀:Nat} {w0:World} (f9:∀ y,mk y=first ++ #[y]++captured)
 (hit:oP P gf mk encs xs n₀ w0) (bW:Below n₀ w0 w) (jJ:n₀<=w.heap.size) (eS:∀ x,(encs x).size=ps.size)
 (I:List α->(Nat->Prop)->World->Prop) (Ix:Code->List α->(Nat->Prop)->World->Prop)
 (hI:dE w.heap.size I) (fX:∀ c,dE w.heap.size (Ix c))
 (S0:Nat->Prop) (lH:∀ k,S0 k->n₀<=k) (ie:∀ k,S0 k->k<w.heap.size) (h0:I [] S0 w)
 (vZ:∀ (l0:Nat) (pre:List α) (x:α) (S:Nat->Prop) (W:World),pre ++ [x] <+: xs->I pre S W->(∀ k,S k->k<W.heap.size)->
   assign.wpIn (Fence.wide.inRound l0) 0 P (Exit.then (λa₁ W₁=>∃ S',RdStep S W W₁/\(∀ k,S' k->S k\/W.heap.size<=k)/\(∀ k,S' k->k<W₁.heap.size)/\
    ∀ l W₂,ItStep w.heap.size S' W₁ W₂->body.wpIn (Fence.wide.inRound l) 0 P (jY I Ix (pre ++ [x]) S' W₂) a₁ W₂) (λ_ _ _=>False))
    { tmps:=(ps.zip (encs x)).foldl (λt (p,v)=>t.setIfInBounds p v) a.tmps,defers:=[] } W)
 (kf:∀ (D:Nat) (S:Nat->Prop) (W:World),w.heap.size<=D->¬ S D->(∀ k,S k->S0 k\/w.heap.size<=k)->I xs S W->W.heap[D]?=some (.deferred (some []))->
   Q .normal { a with defers:={ target:=.collected D,args:=#[] } :: a.defers } W)
 (jl:∀ (D:Nat) (c:Code) (pre:List α) (S:Nat->Prop) (W:World),w.heap.size<=D->¬ S D->(∀ k,S k->S0 k\/w.heap.size<=k)->pre <+: xs->Ix c pre S W->W.heap[D]?=some (.deferred (some []))->
   c.wpIn Fence.wide 0 P Q { a with defers:={ target:=.collected D,args:=#[] } :: a.defers } W) :
 (Code.rangeFunc g ps assign body).wpIn Fence.wide 0 P Q a w:=
 Fs hg eg f9 hit bW jJ eS I Ix (λpre x S a₁ W=>∀ l W₂,ItStep w.heap.size S W W₂->body.wpIn (Fence.wide.inRound l) 0 P (jY I Ix (pre ++ [x]) S W₂) a₁ W₂)
  hI fX (λ_ _ _ _ _ _ h hs l W₂ h2=>h l W₂ (hs.trans h2)) S0 lH ie h0 vZ (λl _ _ _ _ W _ h _=>h l W (ItStep.refl _ _ _)) kf jl
theorem aeX{n:Nat}{W W':World}{b:Nat}{t:TypeId}{v:Value}(h:Boxed W b t v)(hs:Below n W W')(hb:b<n:=by omega):Boxed W' b t v:=aX h hs hb
end
section
open Go.RowKit Go.Shelf
attribute [local go_sem] Oper.semAt_some
abbrev aM(l:List UInt8):Value:=.string ⟨l.toArray⟩
def E9:Value->Nat
 | .string s=>s.size
 | _=>0
def BI(t:ByteArray)(J:List (List UInt8)->(Nat->Prop)->World->Prop)(S:Nat->Prop)(W:World)(v:Value)(wr:World):Prop:=
 ∃ (pre:List (List UInt8)) (r:ByteArray) (S1:Nat->Prop),v = .string r/\r.size<=140737488355328/\Np.back t.data.toList=pre++(Np.aS r.data.toList).reverse/\
   J pre S1 wr/\(∀ k,S1 k->k<wr.heap.size)/\W.heap.size<=wr.heap.size/\(∀ k,S1 k->S k\/W.heap.size<=k)
theorem yZ(t:ByteArray)(ht:t.size<=140737488355328)(n₀:Nat)(w:World) :
 oP prog 215 (λy=>#[.string t,y]) (λx:List UInt8=>#[aM x]) (Np.back t.data.toList) n₀ w:=by
 intro l J Jx S W hW hJ zy hY hS hS' h0;refine callsIn_of_wp func215 rfl trivial ?_ rfl;simp only[ntmps215,List.size_toArray,List.length_cons,List.length_nil,Nat.reduceAdd,Nat.reduceSub,Array.replicate_succ,Array.replicate_zero,List.push_toArray,List.append_toArray,List.nil_append,List.cons_append];gi_wp2_with fail
 ·have he:(t.toList == [46])=true:=by assumption
  have fg:t.data.toList = [46]:=by rw[<-dQ];simpa using he
  have hb:Np.back t.data.toList = []:=by simp[Np.back,fg]
  refine bodyPost_ret (results_none rfl _ _ _) rfl ?_;exact⟨⟨_,rfl⟩,.inl ⟨S,by rw[hb];exact h0,λk e=>.inl e⟩⟩
 ·have he:(t.toList == [46])=false:=by assumption
  have hne:¬ t.data.toList = [46]:=by rw[<-dQ];simpa using he
  have hb:Np.back t.data.toList=(Np.aS t.data.toList).reverse:=by simp[Np.back,hne]
  have HB:=jq hb;clear hb;gi_loopw [4] (λv wr=>BI t J S W v wr) (λv _=>E9 v)
  case atStart=>exact⟨[],t,S,rfl,ht,by simpa using HB.out,h0,hS',bQ _,λ_ e=>.inl e⟩
  case round=>
   obtain⟨pre,r,S1,rfl,hr,fM,hj,aa,ag,aF⟩:=hrel;have HP:=jq fM;clear fM;gi_wp2_with fail;refine⟨trivial,rfl,?_⟩;refine (callsIn_wide.2 (ER _ hr _ (by decide) (by decide) _)).mono ?_;rintro e w' ⟨q,hq,rfl,rfl⟩;rcases hq with ⟨rfl,gG⟩ | ⟨a,b,fe,kg,rfl⟩
   ·have aN:Np.aS r.data.toList = [r.data.toList]:=Np.tG gG;have hx:pre ++ [r.data.toList] <+: Np.back t.data.toList:=by rw[HP.out,aN];exact List.prefix_refl _
    obtain⟨fn,tmps,assign,body,hy,hR⟩:=hY pre r.data.toList S1 wr hx hj aa ag;have lV:Sem.run prog (Instr.yield l #[.string r]) wr = .ok (.round l fn tmps assign body) wr:=hy;clear hy;have HX:=jq hx;clear hx;have HS:=jq aN;clear aN gG;gi_wp2_with fail;refine⟨rfl,hR.mono ?_⟩;rintro e W3 ⟨S3,an,bS,cG,(⟨rfl,eM⟩ | ⟨rfl,eN⟩)⟩
    all_goals
     gi_wp2_with fail;refine bodyPost_ret (results_none rfl _ _ _) rfl ?_
    ·refine⟨⟨_,rfl⟩,.inl ⟨S3,?_,λk e=>?_⟩⟩
     ·rw[HP.out,HS.out];exact eM
     ·rcases bS k e with e | e
      ·exact aF k e
      ·right;omega
    ·refine⟨⟨_,rfl⟩,.inr ⟨_,S3,HX.out,eN,λk e=>?_⟩⟩;rcases bS k e with e | e
     ·exact aF k e
     ·right;omega
   ·have jm:a.length+1+b.length=r.size:=by rw[<-bG,fe];simp;omega
    have aN:Np.aS r.data.toList=Np.aS a ++ [b]:=by rw[fe];exact (Np.Bx a b).trans (by rw[Np.tG kg])
    have hx:pre ++ [b] <+: Np.back t.data.toList:=by rw[HP.out,aN];simp
    have lU:(r.extract (a.length+1) r.size).data.toList=b:=by rw[zi,fe];simp
    have mI:(r.extract 0 a.length).data.toList=a:=by rw[zj,fe];simp
    have wD:(r.extract 0 a.length).size=a.length:=by rw[<-bG,mI]
    obtain⟨fn,tmps,assign,body,hy,hR⟩:=hY pre b S1 wr hx hj aa ag;have lV:Sem.run prog (Instr.yield l #[.string (r.extract (a.length+1) r.size)]) wr = .ok (.round l fn tmps assign body) wr:=by
     have:aM b = .string (r.extract (a.length+1) r.size):=by show Value.string _=_;congr 1;exact mY (by rw[lU])
     simp only[this] at hy;exact hy
    clear hy;have HX:=jq hx;have HS:=jq aN;have HA:=jq mI;have uw:=jq wD;clear hx aN lU mI wD fe kg;have j9:a.length<=140737488355328:=by omega
    have I2:a.length+1<=r.size:=by omega
    have H2:=jq jm;clear jm;gi_wp2_with fail;refine⟨rfl,hR.mono ?_⟩;rintro e W3 ⟨S3,an,bS,cG,(⟨rfl,eM⟩ | ⟨rfl,eN⟩)⟩
    ·have Tu:=an.size;gi_wp2_with fail;go_roundw
     case rel=>
      refine⟨pre ++ [b],r.extract 0 a.length,S3,rfl,by rw[uw.out];exact j9,?_,eM,cG,by omega,λk e=>?_⟩
      ·rw[HP.out,HS.out,HA.out];simp
      ·rcases bS k e with e | e
       ·exact aF k e
       ·right;omega
     case measure=>show (r.extract 0 a.length).size<r.size;rw[uw.out];omega
    ·gi_wp2_with fail;refine bodyPost_ret (results_none rfl _ _ _) rfl ?_;refine⟨⟨_,rfl⟩,.inr ⟨_,S3,HX.out,eN,λk e=>?_⟩⟩;rcases bS k e with e | e
     ·exact aF k e
     ·right;omega
end
namespace D
open Go.RowKit Go.Shelf
attribute [local go_sem] Oper.semAt_some
def pU(pre:List (List UInt8)):Bool:=pre.getLast? == some [42]
def yS(w:World)(xs:List (List UInt8))(pre:List (List UInt8))(S:Nat->Prop)(W:World):Prop:=
 (∀ k,S k↔k=w.heap.size\/k=w.heap.size+1\/k=w.heap.size+1+1)/\Boxed W w.heap.size 4 (.bool false)/\Boxed W (w.heap.size+1) 3 (.int .i64 pre.length)/\Boxed W (w.heap.size+1+1) 4 (.bool (pU pre))/\
 (pre.length<=8/\∀ rest,xs=pre++rest->Np.dF xs 0 false=Np.dF rest pre.length (pU pre))/\Below w.heap.size w W
def yT(w:World)(xs:List (List UInt8))(c:Code)(_:List (List UInt8))(S:Nat->Prop)(W:World):Prop:=
 c = .ret/\(∀ k,S k↔k=w.heap.size\/k=w.heap.size+1\/k=w.heap.size+1+1)/\Boxed W w.heap.size 4 (.bool false)/\Np.dF xs 0 false=false/\Below w.heap.size w W
theorem Ma(w:World)(xs:List (List UInt8))(B:Nat)(hB:w.heap.size<=B):dE B (yS w xs):=by
 rintro s S W W' ⟨hS,h1,h2,h3,h4,h5⟩ ak;exact⟨hS,fd h1 ak ((hS _).2 (.inl rfl)),fd h2 ak ((hS _).2 (.inr (.inl rfl))),fd h3 ak ((hS _).2 (.inr (.inr rfl))),h4,oV h5 ak hB (bQ _)⟩
theorem X3(w:World)(xs:List (List UInt8))(B:Nat)(hB:w.heap.size<=B)(c:Code):dE B (yT w xs c):=by
 rintro s S W W' ⟨hc,hS,h1,h4,h5⟩ ak;exact⟨hc,hS,fd h1 ak ((hS _).2 (.inl rfl)),h4,oV h5 ak hB (bQ _)⟩
theorem Fj{w:World}{xs pre:List (List UInt8)}{S:Nat->Prop}{W W3:World}{a:Act}(hS:∀ k,S k↔k=w.heap.size\/k=w.heap.size+1\/k=w.heap.size+1+1)
 (hr:RdStep S W W3) (aa:∀ k,S k->k<W.heap.size) (c0:Boxed W3 w.heap.size 4 (.bool false)) (hB:Below w.heap.size w W3) (hg:Np.dF xs 0 false=false) :
 jY (yS w xs) (yT w xs) pre S W .ret a (W3.setCell ⟨w.heap.size,0,none⟩ (.bool false)):=
 ⟨S,hr.setCell (.inl ((hS _).2 (.inl rfl))) _,λ_ e=>.inl e,λk e=>by have:=aa k e;have:=hr.size;simp[World.setCell];omega,rfl,hS,c0.set _,hg,hB.setCell (bQ _) _⟩
theorem Mb{w:World}{xs pre rest:List (List UInt8)}{x:List UInt8}{S:Nat->Prop}{W W3:World}{a:Act}(hS:∀ k,S k↔k=w.heap.size\/k=w.heap.size+1\/k=w.heap.size+1+1)
 (hr:RdStep S W W3) (aa:∀ k,S k->k<W.heap.size) (c0:Boxed W3 w.heap.size 4 (.bool false)) (c1:Boxed W3 (w.heap.size+1) 3 (.int .i64 (pre.length+1))) (c2:Boxed W3 (w.heap.size+1+1) 4 (.bool (x == [42])))
 (hB:Below w.heap.size w W3) (n9:pre ++ [x]++rest=xs) (hl:pre.length+1<=8) (hg:Np.dF xs 0 false=Np.dF rest (pre.length+1) (x == [42])) :
 jY (yS w xs) (yT w xs) (pre ++ [x]) S W .normal a W3:=by
 have hw:pU (pre ++ [x])=(x == [42]):=by simp[pU]
 refine⟨S,hr,λ_ e=>.inl e,λk e=>by have:=aa k e;have:=hr.size;omega,hS,c0,by simpa using c1,by rw[hw];exact c2,⟨by simpa using hl,λr h=>?_⟩,hB⟩
 have:r=rest:=List.append_cancel_left (h.symm.trans n9.symm)
 rw[hg,this,hw];simp
theorem valid_any(t:ByteArray)(ht:t.size<=140737488355328)(w:World) :
 Calls prog 175 #[.string t] w λe w'=>e = .returned (.bool (Np.aG t.data.toList))/\Below w.heap.size w w':=by
 refine (callsIn_wide (n:=0)).1 ?_;refine callsIn_of_wp_marks func175 rfl trivial ?_ rfl;simp only[ntmps175,List.size_toArray,List.length_cons,List.length_nil,Nat.reduceAdd,Nat.reduceSub,Array.replicate_succ,Array.replicate_zero,List.push_toArray,List.append_toArray,List.nil_append,List.cons_append];gi_wp2_with fail
 ·have he:(t.toList == [46])=true:=by assumption
  have fg:t.data.toList = [46]:=by rw[<-dQ];simpa using he
  exact j6 (v:=.bool true) (by simp[results,results175,go_sem]) ⟨by rw[Np.aG,Qb fg],(vQ _ _).alloc (bQ _) _⟩
 ·have he:(t.toList == [46])=false:=by assumption
  have fg:¬ t.data.toList = [46]:=by rw[<-dQ];simpa using he
  have hl:60<(t.size:Int):=by assumption
  exact j6 (v:=.bool false) (by simp[results,results175,go_sem]) ⟨by rw[Np.aG,Qc fg,Qb (by rw[bG];omega)],(vQ _ _).alloc (bQ _) _⟩
 ·have he:(t.toList == [46])=false:=by assumption
  have fg:¬ t.data.toList = [46]:=by rw[<-dQ];simpa using he
  have hl:(t.size:Int)<=60:=by assumption
  have hv:Np.aG t.data.toList=Np.dF (Np.back t.data.toList) 0 false:=by
   rw[Np.aG,Qc fg,Qc (by rw[bG];omega),Np.back,Qc fg]
  have HV:=jq hv;clear hv;have b0:=Boxed.new w 4 (.bool false);have b1:=Boxed.new (w.alloc (.cells #[.bool false] 4)) 3 (.int .i64 0);have b2:=Boxed.new ((w.alloc (.cells #[.bool false] 4)).alloc (.cells #[.int .i64 0] 3)) 4 (.bool false);simp only[World.size_alloc] at b1 b2;refine xL (n₀:=w.heap.size) (w0:=w) (first:=#[.string t]) (captured:=#[]) (gf:=215) rfl (enters_of func215 (by kernel_rfl) rfl) (mk:=λy=>#[.string t,y]) (λ_=>rfl)
   (yZ t ht _ w) ((((vQ _ w).alloc (bQ _) _).alloc (by simp) _).alloc (by simp;omega) _) (by simp;omega) (λ_=>rfl) (yS w (Np.back t.data.toList)) (yT w (Np.back t.data.toList))
   (Ma _ _ _ (by simp;omega)) (λc=>X3 _ _ _ (by simp;omega) c)
   (λk=>k=w.heap.size\/k=w.heap.size+1\/k=w.heap.size+1+1) (by intro k h;omega) (by intro k h;simp;omega)
   ⟨λ_=>Iff.rfl,(b0.alloc _).alloc _,b1.alloc _,b2,⟨by simp,λrest h=>by rw[h];rfl⟩,(((vQ _ w).alloc (bQ _) _).alloc (by simp) _).alloc (by simp;omega) _⟩ ?round ?done ?stop
  case round=>
   rintro l0 pre x S W aJ hI eh;gi_wp2;refine⟨S,RdStep.refl _ _,λk e=>.inl e,eh,?_⟩;intro l W₂ ak;obtain⟨hS,c0,c1,c2,hg,hB⟩:=Ma w _ _ (by simp;omega) pre S W W₂ hI ak;have c0c:=c0.cell;have c1c:=c1.cell;have c2c:=c2.cell;have c0f:=c0.frozen;have c1f:=c1.frozen;have c2f:=c2.frozen;have hlen:=hg.1;have hx:x∈Np.back t.data.toList:=aJ.subset (by simp);have pK:x.length<=60:=by have:=Np.yY hx;rw[bG] at this;omega
   have jL:(⟨x.toArray⟩:ByteArray).size<=140737488355328:=by rw[<-bG];simp;omega
   obtain⟨rest,n9⟩:=aJ;have pj:Np.dF (Np.back t.data.toList) 0 false=Np.dF (x::rest) pre.length (pU pre):=hg.2 _ (by rw[<-n9];simp);have HR:=jq n9;have HG:=jq pj;have vh:∀ (b:Nat) (u:Value),w.heap.size<=b->Below w.heap.size w (W₂.setCell ⟨b,0,none⟩ u):=λb u hb=>hB.setCell (p:=⟨b,0,none⟩) hb u;have dI:∀ k,S k->k<W₂.heap.size:=λk e=>lQ (eh k e) ak.size;clear n9 pj hg hx;gi_wp2_with (refine⟨trivial,rfl,?_⟩;gi_at_call 245;refine (CallsIn.inRound l (callsIn_wide.2 (Uz _ jL _))).mono ?_;rintro e w' ⟨rfl,rfl⟩)
   ·exact Fj hS (RdStep.setCell (RdStep.refl S W₂) (p:=⟨w.heap.size+1,0,none⟩) (.inl ((hS _).2 (.inr (.inl rfl)))) _) dI (bn c0 (p:=⟨w.heap.size+1,0,none⟩) (by simp) _) (vh _ _ (by omega))
     (by rw[HG.out];have:pU pre=true:=by assumption
         simp[Np.dF,this])
   ·exact Fj hS (RdStep.setCell (RdStep.refl S W₂) (p:=⟨w.heap.size+1,0,none⟩) (.inl ((hS _).2 (.inr (.inl rfl)))) _) dI (bn c0 (p:=⟨w.heap.size+1,0,none⟩) (by simp) _) (vh _ _ (by omega))
     (by rw[HG.out];have:8<pre.length+1:=by omega
         simp[Np.dF,this])
   ·have cS:x = [42]:=by assumption
    have e:(x == [42])=true:=by simp[cS]
    have fJ:(pre.length:Int)+1<=8:=by assumption
    have h1:¬ pU pre=true:=by assumption
    have h2:¬ 8<pre.length+1:=by omega
    refine⟨trivial,?_⟩;gi_wp2;exact Mb hS (RdStep.setCell (RdStep.setCell (RdStep.refl S W₂) (p:=⟨w.heap.size+1,0,none⟩) (.inl ((hS _).2 (.inr (.inl rfl)))) _) (p:=⟨w.heap.size+1+1,0,none⟩) (.inl ((hS _).2 (.inr (.inr rfl)))) _) dI
     (bn (bn c0 (p:=⟨w.heap.size+1,0,none⟩) (by simp) _) (p:=⟨w.heap.size+1+1,0,none⟩) (by simp <;> omega) _)
     (bn (c1.set _) (p:=⟨w.heap.size+1+1,0,none⟩) (by simp <;> omega) _) (by rw[e];exact (bn c2 (p:=⟨w.heap.size+1,0,none⟩) (by simp) _).set _)
     ((vh _ _ (by omega)).setCell (p:=⟨w.heap.size+1+1,0,none⟩) (by simp;omega) _) HR.out (by omega) (by rw[HG.out];simp[Np.dF,h1,h2,cS])
   ·have hl:(!x == [42])=true/\(!Np.cH x)=true:=by assumption
    have cS:¬ x = [42]:=by assumption
    exact Fj hS (RdStep.setCell (RdStep.setCell (RdStep.refl S W₂) (p:=⟨w.heap.size+1,0,none⟩) (.inl ((hS _).2 (.inr (.inl rfl)))) _) (p:=⟨w.heap.size+1+1,0,none⟩) (.inl ((hS _).2 (.inr (.inr rfl)))) _) dI
     (bn (bn c0 (p:=⟨w.heap.size+1,0,none⟩) (by simp) _) (p:=⟨w.heap.size+1+1,0,none⟩) (by simp <;> omega) _)
     ((vh _ _ (by omega)).setCell (p:=⟨w.heap.size+1+1,0,none⟩) (by simp;omega) _)
     (by rw[HG.out];have h2:Np.cH x=false:=by simpa using hl.2
         simp[Np.dF,cS,h2])
   ·have hl:(!x == [42])=false\/(!Np.cH x)=false:=by assumption
    have cS:¬ x = [42]:=by assumption
    have e:(x == [42])=false:=by simp[cS]
    have fJ:(pre.length:Int)+1<=8:=by assumption
    have h1:¬ pU pre=true:=by assumption
    have h2:¬ 8<pre.length+1:=by omega
    have h3:Np.cH x=true:=by simpa [e] using hl
    exact Mb hS (RdStep.setCell (RdStep.setCell (RdStep.refl S W₂) (p:=⟨w.heap.size+1,0,none⟩) (.inl ((hS _).2 (.inr (.inl rfl)))) _) (p:=⟨w.heap.size+1+1,0,none⟩) (.inl ((hS _).2 (.inr (.inr rfl)))) _) dI
     (bn (bn c0 (p:=⟨w.heap.size+1,0,none⟩) (by simp) _) (p:=⟨w.heap.size+1+1,0,none⟩) (by simp <;> omega) _)
     (bn (c1.set _) (p:=⟨w.heap.size+1+1,0,none⟩) (by simp <;> omega) _) ((bn c2 (p:=⟨w.heap.size+1,0,none⟩) (by simp) _).set _)
     ((vh _ _ (by omega)).setCell (p:=⟨w.heap.size+1+1,0,none⟩) (by simp;omega) _) HR.out (by omega) (by rw[HG.out];simp[Np.dF,h1,h2,cS,h3,e])
  case done=>
   rintro D S W hD dH aF ⟨hS,c0,c1,c2,hg,hB⟩ hK;have c0c:=c0.cell;have c0f:=c0.frozen;have nJ:Np.dF (Np.back t.data.toList) 0 false=true:=by rw[hg.2 [] (by simp)];rfl
   have zu:w.heap.size≠D:=λe=>dH ((hS _).2 (.inl e.symm));clear hg;have HE:=jq nJ;clear nJ;gi_wp2;have hK':(W.setCell ⟨w.heap.size,0,none⟩ (.bool true)).heap[D]?=some (.deferred (some [])):=(wQ _ _ _ _ (by simpa using zu.symm)).trans hK;have c5:=(lC (c0.set (.bool true)) zu (.deferred none)).cell;exact kH hK' (v:=.bool true) (by simp[results,results175,go_sem,c5]) ⟨by rw[HV.out,HE.out],kE (hB.setCell (bQ _) _) (by simp at hD;omega) _⟩
  case stop=>
   rintro D c pre S W hD dH aF fM ⟨rfl,hS,c0,hg,hB⟩ hK;have zu:w.heap.size≠D:=λe=>dH ((hS _).2 (.inl e.symm));have HE:=jq hg;clear hg;gi_wp2;have c5:=(lC c0 zu (.deferred none)).cell;exact kH hK (v:=.bool false) (by simp[results,results175,go_sem,c5]) ⟨by rw[HV.out,HE.out],kE hB (by simp at hD;omega) _⟩
theorem nameValid_any(t:ByteArray)(ht:t.size<=140737488355328)(w:World) :
 Calls prog 105 #[.string t] w λe w'=>e = .returned (.bool (Np.aG t.data.toList))/\Below w.heap.size w w':=by
 go_enter func105,ntmps105;go_wp2_with (go_at_call 175;refine (valid_any _ ht _).mono ?_;rintro e w' ⟨rfl,hb⟩);go_ret;exact⟨rfl,hb⟩
end D
section
open Go.RowKit
theorem valid_any(t:ByteArray)(ht:t.size<=140737488355328)(w:World) :
 Calls prog 175 #[.string t] w (agQ w.heap.size w (.bool (Np.aG t.data.toList))):=
 (D.valid_any t ht w).mono λ_ _ h=>⟨h.1,h.2.low⟩
theorem nameValid_any(t:ByteArray)(ht:t.size<=140737488355328)(w:World) :
 Calls prog 105 #[.string t] w (agQ w.heap.size w (.bool (Np.aG t.data.toList))):=
 (D.nameValid_any t ht w).mono λ_ _ h=>⟨h.1,h.2.low⟩
theorem Fr(x lo hi:Int)(w:World) :
 Calls prog 228 #[.int .i64 x,.int .i64 lo,.int .i64 hi] w (agZ w (.bool (decide (lo<=x)&&decide (x<=hi)))):=by
 by_cases h1:lo<=x
 all_goals
  go_enter func228,ntmps228;go_wp2;go_ret;exact⟨aj (by simp;omega),rfl⟩
theorem EP(s:ByteArray)(h:1<=s.size):((s.extract 0 1).toList == [42])=Np.eU s.data.toList:=by
 rw[dQ,zj];unfold Np.eU;have hl:1<=s.data.toList.length:=by rw[bG];exact h
 cases hd:s.data.toList with
 | nil=>rw[hd] at hl;simp at hl
 | cons a r=>rw[Bool.eq_iff_iff];simp
theorem Ku(s:ByteArray)(hs:s.size<=140737488355328)(w:World) :
 Calls prog 229 #[.string s] w (agZ w (.bool (Np.eU s.data.toList))):=by
 have h1:1<=s.size->((s.extract 0 1).toList == [42])=Np.eU s.data.toList:=EP s;have h2:s.size<1->Np.eU s.data.toList=false:=λh=>by
  have:s.data.toList = []:=rQ (by rw[bG];omega)
  rw[this];rfl
 have H1:=jq h1;have H2:=jq h2;clear h1 h2;go_enter func229,ntmps229;go_wp2
 ·go_ret;exact⟨aj (H1.out (by omega)),rfl⟩
 ·go_ret;exact⟨aj (H2.out (by omega)).symm,rfl⟩
theorem Qe(s t:ByteArray)(w:World) :
 Calls prog 303 #[.string s,.string t] w (agZ w (.int .i64 (Np.bJ s.data.toList t.data.toList))):=by
 go_enter func303,ntmps303;go_wp2
 ·have h:Op.bytesLess s.toList t.toList=true:=by assumption
  simp only[dQ] at h;go_ret;exact⟨lj (by simp[Np.bJ,h]),rfl⟩
 ·have h:Op.bytesLess s.toList t.toList=false:=by assumption
  have h2:(!s.toList == t.toList)=true:=by assumption
  simp only[dQ] at h h2;have h3:¬ s.data.toList=t.data.toList:=by simpa using h2
  go_ret;exact⟨lj (by rw[Np.bJ,Qc (by simp[h]),Qc h3]),rfl⟩
 ·have h:Op.bytesLess s.toList t.toList=false:=by assumption
  have h2:(!s.toList == t.toList)=false:=by assumption
  simp only[dQ] at h h2;have h3:s.data.toList=t.data.toList:=by simpa using h2
  go_ret;exact⟨lj (by rw[Np.bJ,Qc (by simp[h]),Qb h3]),rfl⟩
theorem uH(s t:Int)(w:World) :
 Calls prog 123 #[.int .i64 s,.int .i64 t] w (agZ w (.int .i64 (Np.cL s t))):=by
 go_enter func123,ntmps123;go_wp2
 ·go_ret;exact⟨lj (by rw[Np.cL,Qb ‹_›]),rfl⟩
 ·go_ret;exact⟨lj (by rw[Np.cL,Qc (by omega),Qb ‹_›]),rfl⟩
 ·go_ret;exact⟨lj (by rw[Np.cL,Qc (by omega),Qc (by omega)]),rfl⟩
theorem Is(c:UInt8):Np.nB c=decide ((97<=(c.toNat:Int)/\(c.toNat:Int)<=122)\/(48<=(c.toNat:Int)/\(c.toNat:Int)<=57)\/(c.toNat:Int)=32):=by
 have h:=ma c 32 (by decide);unfold Np.nB Np.rm Np.mK;rw[show (32:UInt8)=UInt8.ofNat 32 from rfl,h,Bool.eq_iff_iff];simp[UInt8.le_iff_toNat_le];omega
theorem Um(s:ByteArray)(h:(s.size:Int)<1):Np.ir s.data.toList=false:=by
 have:¬ 1<=s.size:=by omega
 simp[Np.ir,this]
theorem Un(s:ByteArray)(h:40<(s.size:Int)):Np.ir s.data.toList=false:=by
 have:¬ s.size<=40:=by omega
 simp[Np.ir,this]
theorem Uo(s:ByteArray)(h0:0<s.size)(h:(s[0].toNat:Int)=32):Np.ir s.data.toList=false:=by
 have e:=ma s[0] 32 (by decide);rw[uQ (by simpa using h)] at e;have e2:s[0]=(32:UInt8):=by simpa using e
 simp[Np.ir,zX s h0,e2]
theorem Up(s:ByteArray)(h0:s.size - 1<s.size)(h:(s[s.size - 1].toNat:Int)=32):Np.ir s.data.toList=false:=by
 have e:=ma s[s.size - 1] 32 (by decide);rw[uQ (by simpa using h)] at e;have e2:s[s.size - 1]=(32:UInt8):=by simpa using e
 simp[Np.ir,AU s h0,e2]
theorem Uq(s:ByteArray)(k:Nat)(hk:k<s.size)(h:Np.nB s[k]=false):Np.ir s.data.toList=false:=by
 have:s.data.toList.all Np.nB=false:=by
  rw[List.all_eq_false];exact⟨s[k],by rw[<-cQ.1 (uM s k hk) |>.2];exact List.getElem_mem _,by simp[h]⟩
 simp[Np.ir,this]
theorem Ur(s:ByteArray)(h1:1<=s.size)(h2:s.size<=40)(h3:¬ (s[0].toNat:Int)=32)(h4:¬ (s[s.size - 1].toNat:Int)=32)(h5:s.data.toList.all Np.nB=true):Np.ir s.data.toList=true:=by
 have e:=ma s[0] 32 (by decide);have e':=ma s[s.size - 1] 32 (by decide);rw[tQ (by simpa using h3)] at e;rw[tQ (by simpa using h4)] at e';have e2:¬ s[0]=(32:UInt8):=by simpa using e
 have e3:¬ s[s.size - 1]=(32:UInt8):=by simpa using e'
 simp[Np.ir,AU s (by omega),zX s (by omega),e2,e3,h5,h1,h2]
theorem Us(s:ByteArray)(hs:s.size<=140737488355328)(w:World) :
 Calls prog 301 #[.string s] w (agZ w (.bool (Np.ir s.data.toList))):=by
 ·go_enter func301,ntmps301;go_wp2
  rotate_right
  ·go_ret;exact⟨aj (Um s ‹_›).symm,rfl⟩
  ·go_ret;exact⟨aj (Un s ‹_›).symm,rfl⟩
  ·go_ret;exact⟨aj (Uo s ‹_› ‹_›).symm,rfl⟩
  ·have h:((s[s.size - 1].toNat:Int) == 32)=true:=by assumption
   go_ret;exact⟨aj (Up s (by omega) (by simpa using h)).symm,rfl⟩
  ·have h2:(s.size:Int)<=40:=by assumption
   have h3:¬ (s[0].toNat:Int)=32:=by assumption
   have h4:((s[s.size - 1].toNat:Int) == 32)=false:=by assumption
   have H4:=jq h4;clear h4;have H3:=jq h3;go_loop [24] (λi=>∃ k:Nat,k<=s.size/\i = .int .i64 k/\(s.data.toList.take k).all Np.nB=true) (λi=>s.size - (intOf i).toNat)
   case atStart=>exact⟨0,jQ _,rfl,rfl⟩
   case round=>
    obtain⟨k,hk,rfl,ha⟩:=hrel;have HA:=jq ha;clear ha;by_cases aa:k<s.size
    ·have hb:=Ff s[k];by_cases hf:(97<=(s[k].toNat:Int)/\(s[k].toNat:Int)<=122)\/(48<=(s[k].toNat:Int)/\(s[k].toNat:Int)<=57)\/(s[k].toNat:Int)=32
     ·have hl:Np.nB s[k]=true:=by rw[Is];exact uQ hf
      have HL:=jq hl;clear hl;go_wp2
      all_goals first
       | (go_round
          case rel=>exact⟨k+1,by omega,by go_num,Hg s k aa _ HA.out HL.out⟩
          case measure=>simp[intOf] <;> omega)
       | (exfalso
          have hne:((s[k].toNat:Int) != 32)=true:=by assumption
          have Ei:=bne_iff_ne.1 hne;omega)
     ·have hl:Np.nB s[k]=false:=by rw[Is];exact tQ hf
      have HL:=jq hl;clear hl;go_wp2
      all_goals first
       | (go_ret;exact⟨aj (Uq s k aa HL.out).symm,rfl⟩)
       | (exfalso;omega)
       | (exfalso
          have hne:((s[k].toNat:Int) != 32)=false:=by assumption
          have Ei:(s[k].toNat:Int)=32:=by simpa using hne
          omega)
    ·go_wp2;go_ret;exact⟨aj (Ur s (by omega) (by omega) H3.out (by simpa using H4.out) (by have:=HA.out;rwa [L0 s k (by omega)] at this)).symm,rfl⟩
end
namespace Np
def cls(c:UInt8):Nat:=
 if c=32\/c=9\/c=10 then 1 else if c=35 then 2 else if rm c||mK c||c == 42 then 3 else if c=45 then 4 else if c=46 then 5 else if c=34 then 6
 else if c=123\/c=125\/c=59\/c=44\/c=61\/c=64 then 7 else 0
def mL(c:UInt8):Bool:=cls c == 3||cls c == 4||cls c == 5
def KQ(c:UInt8):Bool:=c != 10
def EO(c:UInt8):Bool:=c != 34&&c != 10
def WA(r:List UInt8):Nat:=if 1<=(r.takeWhile EO).length/\r[(r.takeWhile EO).length]?=some 34 then (r.takeWhile EO).length+2 else 0
def Mh:List UInt8->Nat
 | []=>0
 | c::r=>match cls c with
   | 1=>1
   | 2=>((c::r).takeWhile KQ).length
   | 3=>((c::r).takeWhile mL).length
   | 5=>if ((c::r).takeWhile mL).length=1 then 1 else 0
   | 6=>WA r
   | 7=>1
   | _=>0
structure Tok where
 kind:Int
 text:List UInt8
 n:Int
 pos:Int
deriving DecidableEq
def Tok.zero:Tok:=⟨0,[],0,0⟩
def dec(s:List UInt8):Nat:=s.foldl (λa c=>10 * a+(c.toNat - 48)) 0
def xJ(k:Nat)(s:List UInt8):Int×Tok:=
 if k=7 then (0,⟨3,s,0,0⟩)
 else if k=6 then (if 42<s.length then (3,Tok.zero) else (0,⟨1,s,0,0⟩))
 else if s.all mK=false then (if 60<s.length then (3,Tok.zero) else (0,⟨1,s,0,0⟩))
 else if 1<s.length/\s.head?=some 48 then (10,Tok.zero)
 else if 1000000000<dec s then (3,Tok.zero) else (0,⟨2,[],dec s,0⟩)
def kW:List UInt8->Nat->Nat->List Tok×Int×Nat
 | [],_,_=>([],0,0)
 | c::r,p,k=>
  let n:=Mh (c::r)
  if cls c=1\/cls c=2 then kW (r.drop (n - 1)) (p+n) k
  else if n=0 then ([],10,p)
  else if k=2000 then ([],2,p)
  else if (xJ (cls c) ((c::r).take n)).1≠0 then ([],(xJ (cls c) ((c::r).take n)).1,p)
  else
   let x:=kW (r.drop (n - 1)) (p+n) (k+1)
   ({ (xJ (cls c) ((c::r).take n)).2 with pos:=p } :: x.1,x.2)
termination_by l=>l.length
decreasing_by all_goals (simp;omega)
def lex(s:List UInt8):List Tok×Int×Nat:=
 if 8000<s.length then ([],2,0) else if (kW s 0 0).2.1=0 then ((kW s 0 0).1,0,0) else ([],(kW s 0 0).2)

end Np
section
open Go.RowKit
def orI:List Int->Int
 | []=>0
 | x::xs=>if x≠0 then x else orI xs
theorem VH(xs:List Int)(h:∀ x∈xs,x=0):orI xs=0:=by
 induction xs with
 | nil=>rfl
 | cons x r ih=>rw[orI,Qc (by simp[h x (by simp)])];exact ih (λy hy=>h y (by simp[hy]))
theorem VG(xs:List Int)(k:Nat)(hk:k<xs.length)(h:∀ x∈xs.take k,x=0)(hx:xs[k]≠0):orI xs=xs[k]:=by
 induction xs generalizing k with
 | nil=>simp at hk
 | cons x r ih=>
  cases k with
  | zero=>simp at hx;simp[orI,hx]
  | succ k=>
   have h0:x=0:=h x (by simp);rw[orI,Qc (by simp[h0])];simpa using ih k (by simpa using hk) (λy hy=>h y (by simp[hy])) (by simpa using hx)
theorem P9(b c:Nat)(xs:List Int)(hl:xs.length<=1000)(w:World)(hc:∀ i x,xs[i]?=some x->w.cell? ⟨b,i,none⟩=some (.int .i64 x)) :
 Calls prog 302 #[.slice (some ⟨b,0,none⟩) xs.length c] w (agZ w (.int .i64 (orI xs))):=by
 have HC:=jq hc;clear hc;go_enter func302,ntmps302;go_wp2;go_loop [8] (λi=>∃ k:Nat,k<=xs.length/\i = .int .i64 k/\Hid (∀ x∈xs.take k,x=0)) (λi=>xs.length - (intOf i).toNat)
 case atStart=>exact⟨0,jQ _,rfl,jq (by simp)⟩
 case round=>
  obtain⟨k,hk,rfl,HA⟩:=hrel;by_cases aa:k<xs.length
  ·have hcell:w.cell? ⟨b,k,none⟩=some (.int .i64 xs[k]):=HC.out k _ (aQ aa);go_wp2
   ·have hne:(xs[k] != 0)=true:=by assumption
    go_ret;exact⟨lj (VG xs k aa HA.out (by simpa using hne)).symm,rfl⟩
   ·have hne:(xs[k] != 0)=false:=by assumption
    go_round
    case rel=>
     refine⟨k+1,by omega,by go_num,jq ?_⟩;rw[fQ aa];intro x hx;rcases List.mem_append.1 hx with h | h
     ·exact HA.out x h
     ·simp at h;subst h;simpa using hne
    case measure=>simp[intOf] <;> omega
  ·go_wp2;go_ret;exact⟨lj (VH xs (by have:=HA.out;rwa [kQ (by omega)] at this)).symm,rfl⟩
theorem P8(a b:Np.Datum):Np.uG a b=orI [Np.bJ a.text b.text,Np.cL a.n b.n,Np.cL a.m b.m]:=by
 simp only[Np.uG,orI];split
 ·rfl
 ·split
  ·rfl
  ·split
   ·rfl
   ·rename_i h;simpa using h
theorem Qj(s t:ByteArray)(n1 m1 n2 m2:Int)(w:World) :
 Calls prog 231 #[.agg #[.string s,.int .i64 n1,.int .i64 m1],.agg #[.string t,.int .i64 n2,.int .i64 m2]] w
  λe w'=>e = .returned (.int .i64 (Np.uG ⟨s.data.toList,n1,m1⟩ ⟨t.data.toList,n2,m2⟩))/\Below w.heap.size w w':=by
 rw[P8];go_enter func231,ntmps231;go_wp2;refine YM 15 (by kernel_rfl) (by kernel_rfl) ?_;simp only[List.take_succ_cons,List.take_zero,List.drop_succ_cons,List.drop_zero]
 iterate 4 still_step
 still_call (Calls.still_same (Qe _ _ _))
 iterate 4 still_step
 still_call (Calls.still_same (uH _ _ _))
 iterate 4 still_step
 still_call (Calls.still_same (uH _ _ _))
 refine wpStill_nil ?_;go_wp2_with fail;refine (P9 (w.heap.size+1+1) 3 [Np.bJ s.data.toList t.data.toList,Np.cL n1 n2,Np.cL m1 m2] (by simp) _ ?_).mono ?_
 ·intro i x hx
  match i,hx with
  | 0,hx=>simp at hx;subst hx;go_simp
  | 1,hx=>simp at hx;subst hx;go_simp
  | 2,hx=>simp at hx;subst hx;go_simp
  | i+3,hx=>simp at hx
 ·rintro e w' ⟨rfl,rfl⟩;go_wp2_with fail;go_ret;exact⟨rfl,((((vQ _ w).alloc (bQ _) _).alloc (by simp) _).alloc (by simp;omega) _).drew⟩
def go(r:Np.Rule):Array Value:=#[.int .i64 r.text,.int .i64 r.leastN,.int .i64 r.mostN,.int .i64 r.leastM,.int .i64 r.mostM,.bool r.even,.bool r.single,.bool r.wild]
theorem X5(k ln mn lm mm:Int)(ev si wi:Bool)(s:ByteArray)(hs:s.size<=140737488355328)(n m:Int)(w:World) :
 Calls prog 230 #[.agg #[.int .i64 k,.int .i64 ln,.int .i64 mn,.int .i64 lm,.int .i64 mm,.bool ev,.bool si,.bool wi],.agg #[.string s,.int .i64 n,.int .i64 m]] w
  λe w'=>e = .returned (.bool (Np.jt ⟨k,ln,mn,lm,mm,ev,si,wi⟩ ⟨s.data.toList,n,m⟩))/\Below w.heap.size w w':=by
 go_enter func230,ntmps230;go_wp2_with (first
  | (go_at_call 228;refine (Fr _ _ _ _).mono ?_;rintro e w' ⟨rfl,rfl⟩)
  | (go_at_call 105;refine (nameValid_any _ hs _).mono ?_;rintro e w' ⟨rfl,hb⟩;obtain⟨hc,hf⟩:=oU hb)
  | (go_at_call 229;refine (Ku _ hs _).mono ?_;rintro e w' ⟨rfl,rfl⟩)
  | (go_at_call 301;refine (Us _ hs _).mono ?_;rintro e w' ⟨rfl,rfl⟩))
 all_goals
  go_ret;go_light;refine⟨aj ?_,?_⟩
  ·simp_all [Np.jt,Np.tM,dQ] <;> (intros;omega)
  ·first
    | exact ((vQ _ w).alloc (bQ _) _).alloc (by simp) _
    | exact (((vQ _ w).alloc (bQ _) _).alloc (by simp) _).trans (hb.mono (by simp;omega))
end
namespace Np
structure IsGap(g:List UInt8):Prop where
 skip:∀ x p k,kW (g++x) p k=kW x (p+g.length) k
 stop:∃ c r,g=c::r/\mL c=false
 rest:∀ p k,kW (g.drop (g.takeWhile KQ).length) p k=([],0,0)
def j5(n:Nat):List UInt8:=if n<10 then [UInt8.ofNat (48+n)] else j5 (n / 10) ++ [UInt8.ofNat (48+n % 10)]
theorem QD(t:List UInt8)(c:UInt8):dec (t ++ [c])=10 * dec t+(c.toNat - 48):=by simp[dec]
theorem Sn{t u:List UInt8}(h:t≠[]):(t++u).head?=t.head?:=by
 cases t with
 | nil=>exact absurd rfl h
 | cons a t=>rfl
def My(y:List UInt8):Prop:=y = []\/y.head?=some 32
def zd(t:Tok):Tok:={ t with pos:=0 }
def kq(x:List UInt8)(t:Tok):Prop:=∃ c r,x=c::r/\¬ (cls c=1\/cls c=2)/\(∀ y,My y->Mh (x++y)=x.length)/\(xJ (cls c) x).1=0/\zd (xJ (cls c) x).2=zd t
structure Sig where
 zone:List UInt8
 key:Int
 alg:Int
 frm:Int
 til:Int
 sum:Int
deriving DecidableEq
structure Signed where
 set:DSet
 sigs:List Sig
deriving DecidableEq
structure Span where
 frm:Int
 til:Int
deriving DecidableEq
def rA(g x:Sig):Bool:=(x.frm != g.frm)||(x.til != g.til)
def jM:List Sig->Bool
 | []=>true
 | g::r=>!(decide (g.frm<0)||decide (g.til<g.frm)||decide (20000000<g.til))&&!((g::r).any (rA g))
def plain(s:Signed):Bool:=bO s.set&&decide (s.sigs.length<=6)&&jM s.sigs
def fR(s:Signed)(drift stop:Int):Int:=if 0<=drift/\drift<=1000/\1<=stop/\stop<=20000000/\plain s=true then 0 else 1
def l6(s:Signed)(drift:Int):Int:=match s.sigs with | []=>0 | g::_=>g.frm+drift
def l7(s:Signed)(drift stop:Int):Int:=match s.sigs with | []=>stop | g::_=>min stop (g.til - drift+1)
def ew(s:Signed)(drift stop:Int):List Span:=
 if fR s drift stop=0 then (if l7 s drift stop<=l6 s drift then [] else [⟨l6 s drift,l7 s drift stop⟩]) else []
def iW(length drift life:Int):Int:=length - max life 1 - 3 * drift+2
def rC(begin stop length drift life:Int):Prop:=0<=drift/\drift<=1000/\1<=stop/\stop<=10000000/\drift<=begin/\begin<=stop - 1/\1<=length/\length<=10000000/\0<=life/\life<=100000
instance (b s l d f:Int):Decidable (rC b s l d f):=by unfold rC;infer_instance
def dl(b s k:Int):List Int:=(List.range ((s - b+k - 1) / k).toNat).map λ(i:Nat)=>b+i * k
def fm(b s l d f:Int):Int:=if rC b s l d f then (if iW l d f<1 then 32 else if 400<(dl b s (iW l d f)).length then 2 else 0) else 1
def times(b s l d f:Int):List Int:=if fm b s l d f=0 then dl b s (iW l d f) else []
structure Zone where
 apex:List UInt8
 sets:List Signed
deriving DecidableEq
def jZ:List (List UInt8)->List (List UInt8)->Int
 | [],_=>-1
 | _::_,[]=>1
 | x::xs,y::ys=>if bJ x y≠0 then bJ x y else jZ xs ys
def dt(a b:List UInt8):Int:=if a=b then 0 else jZ (back a) (back b)
def iJ(a b:DSet):Int:=if a.name≠b.name then dt a.name b.name else cL a.type b.type
def dm(s z:List UInt8):Bool:=s == z||z == [46]||(decide (z.length<s.length)&&(s.drop (s.length - z.length) == z)&&(s[s.length - z.length - 1]? == some 46))
def jD(apex:List UInt8):Option DSet->List Signed->Bool
 | _,[]=>true
 | p,x::r=>(aG x.set.name&&dm x.set.name apex)&&bO x.set&&(match p with | none=>true | some q=>decide (iJ q x.set<0))&&jD apex (some x.set) r
def g8(z:Zone):Bool:=aG z.apex&&!eU z.apex&&jD z.apex none z.sets
theorem IC:∀ (xs:List (List UInt8)) (n:Nat) (w:Bool),dF xs n w=true->∀ x∈xs,x = [42]\/cH x=true:=by
 intro xs
 induction xs with
 | nil=>intro _ _ _ x h;cases h
 | cons y xs ih=>
  intro n w h x hx;rw[dF] at h;split at h
  ·cases h
  ·split at h
   ·rename_i hy;rcases List.mem_cons.1 hx with rfl | hx
    ·exact .inl hy
    ·exact ih _ _ h x hx
   ·split at h
    ·rename_i hy;rcases List.mem_cons.1 hx with rfl | hx
     ·exact .inr hy
     ·exact ih _ _ h x hx
    ·cases h
theorem Dp{r:Rule} : ∀ {ds:List Datum} {p:Option Datum},gU r p ds=true->∀ d∈ds,jt r d=true
 | [],_,_,d,h=>by cases h
 | e::ds,p,h,d,hd=>by
   simp only[gU,Bool.and_eq_true] at h;rcases List.mem_cons.1 hd with rfl | hd
   ·exact h.1.1
   ·exact Dp h.2 d hd
theorem tN{s:DSet}(h:bO s=true):aG s.name=true/\1<=s.type/\s.type<=8/\0<=s.life/\s.life<=100000/\1<=s.data.length/\s.data.length<=8/\gU (bN s.type) none s.data=true:=by
 unfold bO at h;simp only[Bool.and_eq_true,Qa] at h;obtain⟨⟨⟨⟨⟨⟨h1,h2,h3⟩,h4,h5⟩,h6,h7⟩,_⟩,_⟩,h8⟩:=h;exact⟨h1,h2,h3,h4,h5,h6,h7,h8⟩
theorem Ds{apex:List UInt8} : ∀ {l:List Signed} {p:Option DSet},jD apex p l=true->∀ x∈l,bO x.set=true
 | [],_,_,x,h=>by cases h
 | y::l,p,h,x,hx=>by
   simp only[jD,Bool.and_eq_true] at h;rcases List.mem_cons.1 hx with rfl | hx
   ·exact h.1.1.2
   ·exact Ds h.2 x hx
end Np
end Go.Proofs.YtfnopgdcaanaiaaGreatDoor
namespace Go.Proofs
open YtfnopgdcaanaiaaGreatDoor
open Go.Shelf
def Tryz.lays106_ren:Go.Shelf.Ren:=⟨fun | 106=>216 | 213=>299 | 265=>346 | n=>n,fun | 9=>9 | 3=>3 | n=>n,fun | n=>n⟩
theorem Tryz.lays106:Go.Proofs.Lays.n106 Tryz.prog Tryz.lays106_ren:={
 mixed:=by kernel_rfl
 f106:=Tryz.func216.trans (adZ)
 f213:=Tryz.func299.trans (adZ)
 f265:=Tryz.func346.trans (adZ)
 t3:=Tryz.underlying3
 a3:=Tryz.isAgg3
 z3:=Tryz.sizeOf3
 v3:=Tryz.zeroValue3
 t9:=Tryz.underlying9
 a9:=Tryz.isAgg9
 z9:=Tryz.sizeOf9
 v9:=Tryz.zeroValue9 }
open Go.RowKit in
theorem Tryz.strings_Compare(a b:ByteArray)(w:World) :
 Calls Tryz.prog 216 #[.string a,.string b] w λe w'=>e = .returned (.int .i64 (Lib.compareBytes a.data.toList b.data.toList))/\w'=w:=Any.strings_Compare Tryz.lays106 a b w
end Go.Proofs
namespace Go.Proofs.YtfnopgdcaanaiaaGreatDoor
open Go.Proofs.Tryz
section
open Go.RowKit
def dS(w:World)(B:Nat):Prop:=0<B/\∀ k:Nat,k<9->fC w 0 (k * 8) (go (Np.bN k)).toList
theorem dS.keep{w w':World}{B:Nat}(h:dS w B)(hb:Below B w w'):dS w' B:=⟨h.1,λk hk=>(h.2 k hk).keep hb h.1⟩
theorem dS.more{w:World}{B B':Nat}(h:dS w B)(hB:B<=B'):dS w B':=⟨lQ h.1 hB,h.2⟩
def bI(_:World)(_:Nat)(e:List Value)(d:Np.Datum):Prop:=∃ s:ByteArray,s.data.toList=d.text/\s.size<=140737488355328/\e = [.string s,.int .i64 d.n,.int .i64 d.m]
theorem bq:cj bI:=λ_ _ _ _ _ h _=>h
theorem bD:cB bI:=λ_ _ _ _ _ h _=>h
theorem PV{w w':World}(h:w'=w):Below w.heap.size w w':=by rw[h];exact vQ _ _
theorem Fl(k ln mn lm mm:Int)(ev si wi:Bool)(s:ByteArray)(hs:s.size<=140737488355328)(n m:Int)(w:World)(t:Bool)(ht:Np.jt ⟨k,ln,mn,lm,mm,ev,si,wi⟩ ⟨s.data.toList,n,m⟩=t) :
 Calls prog 230 #[.agg #[.int .i64 k,.int .i64 ln,.int .i64 mn,.int .i64 lm,.int .i64 mm,.bool ev,.bool si,.bool wi],.agg #[.string s,.int .i64 n,.int .i64 m]] w
  λe w'=>e = .returned (.bool t)/\Below w.heap.size w w':=by
 subst ht;exact X5 k ln mn lm mm ev si wi s hs n m w
def Pt(w1:World)(o:Obj)(r:Np.Rule)(ds:List Np.Datum)(i:Value)(wr:World):Prop:=
 ∃ j:Nat,j<=ds.length/\i = .int .i64 j/\Below (w1.alloc o).heap.size (w1.alloc o) wr/\Np.gU r none ds=Np.gU r (ds.take j).getLast? (ds.drop j)
theorem Bk(s:ByteArray)(hs:s.size<=140737488355328)(ty life:Int)(v:Value)(ds:List Np.Datum)(w:World)(hR:dS w w.heap.size)(hd:SlR bI 3 w w.heap.size v ds) :
 Calls prog 152 #[.agg #[.string s,.int .i64 ty,.int .i64 life,v]] w
  λe w'=>e = .returned (.bool (Np.bO ⟨s.data.toList,ty,life,ds⟩))/\Below w.heap.size w w':=by
 have HR:=jq hR;have HD:=jq hd;obtain⟨A,c,rfl,aT,cu,ej⟩:=hd;clear hR ej;have HF:Hid (∀ t:Bool,t=Np.bO ⟨s.data.toList,ty,life,ds⟩->(.bool t:Value) = .bool (Np.bO ⟨s.data.toList,ty,life,ds⟩)):=λt ht=>by rw[ht]
 go_enter func152,ntmps152;go_wp2_with fail;refine (nameValid_any _ hs _).mono ?_;rintro e w1 ⟨rfl,hb⟩;have bW:Below w.heap.size w w1:=((vQ _ w).alloc (bQ _) _).trans (hb.mono (by simp));have ag:w.heap.size+1<=w1.heap.size:=by have:=hb.size;simpa using this
 have cP:w.heap.size<w1.heap.size:=by omega
 have c0:w1.cell? ⟨w.heap.size,0,none⟩=some (.string s):=by rw[hb.cell (by simp)];go_simp
 have c1:w1.cell? ⟨w.heap.size,1,none⟩=some (.int .i64 ty):=by rw[hb.cell (by simp)];go_simp
 have c2:w1.cell? ⟨w.heap.size,2,none⟩=some (.int .i64 life):=by rw[hb.cell (by simp)];go_simp
 have c3:w1.cell? ⟨w.heap.size,3,none⟩=some (.slice A ds.length c):=by rw[hb.cell (by simp)];go_simp
 have HB:=jq hb;clear hb;by_cases gH:1<=ty/\ty<=8
 ·obtain⟨k,rfl⟩:=Int.eq_ofNat_of_zero_le (by omega:0<=ty);have SS:k<9:=by omega
  have oa:=(HR.out.keep bW).2 k SS;have r0:w1.cell? ⟨0,k * 8,none⟩=some (.int .i64 (Np.bN k).text):=oa 0 _ rfl;have r1:w1.cell? ⟨0,k * 8+1,none⟩=some (.int .i64 (Np.bN k).leastN):=oa 1 _ rfl;have r2:w1.cell? ⟨0,k * 8+2,none⟩=some (.int .i64 (Np.bN k).mostN):=oa 2 _ rfl;have r3:w1.cell? ⟨0,k * 8+3,none⟩=some (.int .i64 (Np.bN k).leastM):=oa 3 _ rfl;have r4:w1.cell? ⟨0,k * 8+4,none⟩=some (.int .i64 (Np.bN k).mostM):=oa 4 _ rfl;have r5:w1.cell? ⟨0,k * 8+5,none⟩=some (.bool (Np.bN k).even):=oa 5 _ rfl;have r6:w1.cell? ⟨0,k * 8+6,none⟩=some (.bool (Np.bN k).single):=oa 6 _ rfl;have r7:w1.cell? ⟨0,k * 8+7,none⟩=some (.bool (Np.bN k).wild):=oa 7 _ rfl;clear oa;go_wp2_with (first
   | (go_at_call 228;refine (Fr _ _ _ _).mono ?_;rintro e w' ⟨rfl,rfl⟩)
   | (go_at_call 229;refine (Ku _ hs _).mono ?_;rintro e w' ⟨rfl,rfl⟩))
  all_goals first
   | (go_ret
      go_light;refine⟨aj ?_,by first | exact bW | exact bW.alloc (by omega) _⟩;simp_all [Np.bO] <;> (intros;omega))
   | skip
  all_goals
   have hv:Np.bO ⟨s.data.toList,k,life,ds⟩=Np.gU (Np.bN k) none ds:=by
    go_light;simp_all [Np.bO] <;> (intros;omega)
  rotate_left 3
  all_goals
   have HV:=jq hv;clear hv HF;go_loopw [52] (λi wr=>Pt w1 (Obj.cells (go (Np.bN k)) 283) (Np.bN k) ds i wr) (λi _=>ds.length - (intOf i).toNat)
   case atStart=>
    refine⟨0,jQ _,rfl,PV ?_,rfl⟩;go_light;simp_all [go]
   case round=>
    obtain⟨j,hj,rfl,aV,hg⟩:=hrel;have HG:=jq hg;clear hg;by_cases aa:j<ds.length
    ·have re:=aV.size;simp only[World.size_alloc] at re;have qI:Below w.heap.size w wr:=(bW.alloc (by omega) _).trans (aV.mono (by simp;omega));have TK:w.heap.size<wr.heap.size:=by omega
     have am:w1.heap.size<wr.heap.size:=by omega
     have d3:wr.cell? ⟨w.heap.size,3,none⟩=some (.slice A ds.length c):=by rw[aV.cell (by simp;omega)];rw[World.cell?_alloc_lt _ _ _ (by simpa using cP)];exact c3
     have q0:wr.cell? ⟨w1.heap.size,0,none⟩=some (.int .i64 (Np.bN k).text):=by rw[aV.cell (by simp)];exact World.cell?_alloc_new w1 _ _ _
     have q1:wr.cell? ⟨w1.heap.size,1,none⟩=some (.int .i64 (Np.bN k).leastN):=by rw[aV.cell (by simp)];exact World.cell?_alloc_new w1 _ _ _
     have q2:wr.cell? ⟨w1.heap.size,2,none⟩=some (.int .i64 (Np.bN k).mostN):=by rw[aV.cell (by simp)];exact World.cell?_alloc_new w1 _ _ _
     have q3:wr.cell? ⟨w1.heap.size,3,none⟩=some (.int .i64 (Np.bN k).leastM):=by rw[aV.cell (by simp)];exact World.cell?_alloc_new w1 _ _ _
     have q4:wr.cell? ⟨w1.heap.size,4,none⟩=some (.int .i64 (Np.bN k).mostM):=by rw[aV.cell (by simp)];exact World.cell?_alloc_new w1 _ _ _
     have q5:wr.cell? ⟨w1.heap.size,5,none⟩=some (.bool (Np.bN k).even):=by rw[aV.cell (by simp)];exact World.cell?_alloc_new w1 _ _ _
     have q6:wr.cell? ⟨w1.heap.size,6,none⟩=some (.bool (Np.bN k).single):=by rw[aV.cell (by simp)];exact World.cell?_alloc_new w1 _ _ _
     have q7:wr.cell? ⟨w1.heap.size,7,none⟩=some (.bool (Np.bN k).wild):=by rw[aV.cell (by simp)];exact World.cell?_alloc_new w1 _ _ _
     obtain⟨A',c',hA',_,_,aL⟩:=HD.out.keep bq qI
     cases hA'
     obtain⟨b,o,e,rfl,du,_,hce,sd,pE,AE,rfl⟩:=aL j _ (aQ aa);have e0:wr.cell? ⟨b,o+j * 3,none⟩=some (.string sd):=hce 0 _ rfl;have e1:wr.cell? ⟨b,o+j * 3+1,none⟩=some (.int .i64 ds[j].n):=hce 1 _ rfl;have e2:wr.cell? ⟨b,o+j * 3+2,none⟩=some (.int .i64 ds[j].m):=hce 2 _ rfl;have cg:b<wr.heap.size:=by omega
     have bg:=jq aV;have bp:=jq qI;have yo:=jq aL;have nv:=jq pE;clear hce aV qI aL pE c0 c1 c2 c3 r0 r1 r2 r3 r4 r5 r6 r7;go_wp2_with fail;have p0:=World.cell?_alloc_new wr #[.string sd,.int .i64 ds[j].n,.int .i64 ds[j].m] 128 0;have p1:=World.cell?_alloc_new wr #[.string sd,.int .i64 ds[j].n,.int .i64 ds[j].m] 128 1;have p2:=World.cell?_alloc_new wr #[.string sd,.int .i64 ds[j].n,.int .i64 ds[j].m] 128 2;have keep:∀ b o,b<wr.heap.size->(wr.alloc (.cells #[.string sd,.int .i64 ds[j].n,.int .i64 ds[j].m] 128)).cell? ⟨b,o,none⟩=wr.cell? ⟨b,o,none⟩:=λb o h=>World.cell?_alloc_lt _ _ _ h;have pF:(wr.alloc (.cells #[.string sd,.int .i64 ds[j].n,.int .i64 ds[j].m] 128)).heap.size=wr.heap.size+1:=World.size_alloc _ _;have dX:Below wr.heap.size wr (wr.alloc (.cells #[.string sd,.int .i64 ds[j].n,.int .i64 ds[j].m] 128)):=(vQ _ _).alloc (bQ _) _;generalize wr.alloc (.cells #[.string sd,.int .i64 ds[j].n,.int .i64 ds[j].m] 128)=wx at p0 p1 p2 keep pF dX |-;have cR:w.heap.size<wx.heap.size:=by omega
     have cS:w1.heap.size<wx.heap.size:=by omega
     have EF:wr.heap.size<wx.heap.size:=by omega
     have EG:b<wx.heap.size:=by omega
     have Sz:∀ (g:bU wx) (p:Addr),p.block<wx.heap.size->g.w.cell? p=wx.cell? p:=λg p h=>g.cell p h;have ju:=jq dX;clear dX pF;have Jk:(⟨sd.data.toList,ds[j].n,ds[j].m⟩:Np.Datum)=ds[j]:=by rw[nv.out]
     have yl:=jq Jk;clear Jk;by_cases AH:Np.jt (Np.bN k) ⟨sd.data.toList,ds[j].n,ds[j].m⟩=true
     ·have qq:=jq AH;clear AH;by_cases Ac:j=0
      ·subst Ac;refine aeZ ?_
       repeat (go_big_quiet_step ((go_at_call 230;exact Calls.grow_of (Fl _ _ _ _ _ _ _ _ _ AE _ _ _ true qq.out))))
       refine wpQuiet_nil ?_;rintro _ ⟨g,rfl⟩;go_wp2_with fail;go_roundw
       case rel=>
        go_light;have h1:=Np.Rg (r:=Np.bN k) (aQ aa) (by rw[<-yl.out];exact qq.out);exact⟨1,aa,by go_num,bg.out.trans ((ju.out.trans (g.below.acJ)).mono (by simp;omega)),by rw[<-h1];exact HG.out⟩
       case measure=>simp[intOf] <;> omega
      ·obtain⟨i,rfl⟩:∃ i,j=i+1:=⟨j - 1,by omega⟩
       try (exfalso;omega)
       all_goals
        obtain⟨b',o',e',nD,R1,_,pb,sq,ta,adK,rfl⟩:=yo.out i _ (aQ (by omega))
        cases nD
        have f0:wr.cell? ⟨b,o+i * 3,none⟩=some (.string sq):=pb 0 _ rfl;have f1:wr.cell? ⟨b,o+i * 3+1,none⟩=some (.int .i64 (ds[i]'(by omega)).n):=pb 1 _ rfl;have f2:wr.cell? ⟨b,o+i * 3+2,none⟩=some (.int .i64 (ds[i]'(by omega)).m):=pb 2 _ rfl;have Jj:(⟨sq.data.toList,(ds[i]'(by omega)).n,(ds[i]'(by omega)).m⟩:Np.Datum)=ds[i]'(by omega):=by rw[ta]
        have NF:=jq Jj;clear pb ta Jj;refine aeZ ?_
        repeat (go_big_quiet_step (first
         | (go_at_call 230;exact Calls.grow_of (Fl _ _ _ _ _ _ _ _ _ AE _ _ _ true qq.out))
         | (go_at_call 231;exact Calls.grow_of (Qj _ _ _ _ _ _ _))))
        refine wpQuiet_nil ?_;rintro _ ⟨g,rfl⟩;have h1:=Np.Rh (r:=Np.bN k) (aQ (by omega:i<ds.length)) (aQ aa) (by rw[<-yl.out];exact qq.out);rw[<-yl.out,<-NF.out] at h1;have H1:=jq h1;clear h1;go_wp2_with fail
        ·go_ret;refine⟨aj ?_,bp.out.trans ((ju.out.trans (g.below.acJ)).acJ)⟩;rw[HV.out,HG.out,H1.out,Qc (by omega)]
        ·go_roundw
         case rel=>
          go_light;exact⟨i+1+1,aa,by go_num,bg.out.trans ((ju.out.trans (g.below.acJ)).mono (by simp;omega)),by rw[HG.out,H1.out,Qb (by omega)]⟩
         case measure=>simp[intOf] <;> omega
     ·have Kg:Np.jt (Np.bN k) ⟨sd.data.toList,ds[j].n,ds[j].m⟩=false:=by simpa using AH
      have qq:=jq Kg;clear AH Kg;refine aeZ ?_
      repeat (go_big_quiet_step ((go_at_call 230;exact Calls.grow_of (Fl _ _ _ _ _ _ _ _ _ AE _ _ _ false qq.out))))
      refine wpQuiet_nil ?_;rintro _ ⟨g,rfl⟩;go_wp2_with fail;go_ret;refine⟨aj ?_,bp.out.trans ((ju.out.trans (g.below.acJ)).acJ)⟩;rw[HV.out,HG.out,Np.Rf (aQ aa) (by rw[<-yl.out];exact qq.out)]
    ·go_wp2_with fail;go_ret;refine⟨aj ?_,(bW.alloc (by omega) _).trans (aV.mono (by simp;omega))⟩;rw[HV.out,HG.out,List.drop_eq_nil_of_le (by omega)];rfl
 ·have hv:Np.bO ⟨s.data.toList,ty,life,ds⟩=false:=by
   simp only[Np.bO]
   have:(decide (1<=ty)&&decide (ty<=8))=false:=by simp;omega
   rw[this];simp
  have HV:=jq hv;clear hv;have aeK:(decide (1<=ty)&&decide (ty<=8))=false:=by simp;omega
  go_wp2_with (first
   | (go_at_call 228;refine (Fr _ _ _ _).mono ?_;rintro e w' ⟨rfl,rfl⟩))
  all_goals
   go_ret;exact⟨aj HV.out.symm,bW⟩
end
namespace Np
inductive Res (α:Type) where
 | ok (a:α) (r:List Tok)
 | err (e:Int) (r:List Tok)
deriving DecidableEq
structure Diag where
 err:Int
 pos:Int
deriving DecidableEq
end Np
end Go.Proofs.YtfnopgdcaanaiaaGreatDoor
