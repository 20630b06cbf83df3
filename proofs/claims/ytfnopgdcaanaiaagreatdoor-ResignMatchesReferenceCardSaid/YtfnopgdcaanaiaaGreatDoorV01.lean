/- Parts of the proof. No condition. -/
import Derived.Lib.Hide
import Derived.WalkSpells
import Derived.WalkLawsBesides
import Derived.BigGuardPart
import Derived.StillTailTactics
import Derived.Deep.Light
import Derived.Test.YtfnopgdcaanaiaaGreatDoorProg
import Derived.RangeFuncNested
import Derived.RangeFuncBound
import Derived.Shelf.RegionOpen
import Derived.OwnWalkIn
import Derived.LoopNIn
import Derived.LoopIn
import Derived.Shelf.Small.Strs
import Derived.Laws.EntriesVeiled
set_option linter.all false
set_option maxRecDepth 100000
set_option maxHeartbeats 8000000
namespace Go.Proofs.YtfnopgdcaanaiaaGreatDoor
open Go.Proofs.Tryz
section
open Go.RowKit
theorem jq{p:Prop}(h:p):Hid p:=Lib.hid h
theorem cl{B:Nat}{w w':World}(h:Below B w w'){b o:Nat}(hb:b<B):w'.cell? ⟨b,o,none⟩=w.cell? ⟨b,o,none⟩:=h.cell hb
theorem aQ.{u}{α:Type u}{l:List α}{i:Nat}(h:i<l.length):l[i]?=some l[i]:=List.getElem?_eq_getElem h
theorem bQ(n:Nat):n≤n:=Nat.le_refl n
theorem cQ.{u}{α:Type u}{i:Nat}{a:α}{l:List α}:l[i]?=some a↔∃ h:i<l.length,l[i]=a:=List.getElem?_eq_some_iff
theorem dQ(b:ByteArray):b.toList=b.data.toList:=ByteArray.toList_eq b
theorem eQ.{u}{α:Type u}{i:Nat}{b:α}{xs:Array α}:xs[i]?=some b↔∃ h:i<xs.size,xs[i]=b:=Array.getElem?_eq_some_iff
theorem fQ.{u}{α:Type u}{i:Nat}{l:List α}(h:i<l.length):l.take (i+1)=l.take i++[l[i]]:=List.take_succ_eq_append_getElem h
theorem gQ.{u}{α:Type u}{l:List α}{i:Nat}{a:α}(e:l[i]?=some a):a∈l:=List.mem_of_getElem? e
theorem Qh.{u}{α:Type u}{a:α}:¬a∈([]:List α):=List.not_mem_nil
theorem iQ{w w':World}{a:Addr}(h:w'.heap[a.block]?=w.heap[a.block]?):w'.cell? a=w.cell? a:=World.cell?_of_block h
theorem jQ(n:Nat):0≤n:=Nat.zero_le n
theorem kQ.{u}{α:Type u}{i:Nat}{l:List α}(h:l.length≤i):l.take i=l:=List.take_of_length_le h
theorem lQ{n m k:Nat}:n<m→m≤k→n<k:=Nat.lt_of_lt_of_le
theorem mQ.{u}{α:Type u}(y:α){a:α}{l:List α}:a∈l→a∈y::l:=List.mem_cons_of_mem y
theorem nQ.{u}{α:Type u}{a:α}{l:List α}:a∈l↔∃ (i:Nat) (h:i<l.length),l[i]=a:=List.mem_iff_getElem
theorem oQ.{u}{α:Type u}{l₁ l₂:List α}{i:Nat}:l₁.length≤i→(l₁++l₂)[i]?=l₂[i-l₁.length]?:=List.getElem?_append_right
theorem pQ.{u}{α:Type u}{xs:Array α}{i:Nat}(h:i<xs.size):xs[i]?=some xs[i]:=Array.getElem?_eq_getElem h
theorem rQ.{u}{α:Type u}{l:List α}:l.length=0→l=[]:=List.eq_nil_of_length_eq_zero
theorem sQ.{u}{α:Type u}{i:Nat}{l:List α}(h:i<l.length):l.drop i=l[i]::l.drop (i+1):=List.drop_eq_getElem_cons h
theorem tQ{p:Prop}[Decidable p]:¬p→decide p=false:=decide_eq_false
theorem uQ{p:Prop}[Decidable p]:p→decide p=true:=decide_eq_true
theorem vQ(B:Nat)(w:World):Below B w w:=Below.refl B w
theorem wQ(w:World)(a:Addr)(u:Value)(k:Nat)(h:k≠a.block):(w.setCell a u).heap[k]?=w.heap[k]?:=Below.heap_setCell w a u k h
theorem xQ(w:World)(a b:Addr)(v:Value)(h:a≠b):(w.setCell a v).cell? b=w.cell? b:=World.cell?_setCell_other w a b v h
theorem yQ{n m k:Nat}:n≤m→m≤k→n≤k:=Nat.le_trans
theorem zQ{r k:Nat}{o:Obj}{w:World}(h:k≠r):(w.putObj r o).heap[k]?=w.heap[k]?:=World.putObj_heap_other h
theorem Qa{p:Prop}[Decidable p]:(decide p=true)=p:=decide_eq_true_eq
theorem Qb.{u}{c:Prop}{h:Decidable c}(hc:c){α:Sort u}{t e:α}:ite c t e=t:=if_pos hc
theorem Qc.{u}{c:Prop}{h:Decidable c}(hn:¬c){α:Sort u}{t e:α}:ite c t e=e:=if_neg hn
theorem Qd.{u,v}{α:Sort u}{β:Sort v}{a b:α}(f:α->β)(h:a=b):f a=f b:=congrArg f h
theorem aIZ{B:Nat}{w w':World}(h:Below B w w'){b o:Nat}{v:Option Value}(e:w.cell? ⟨b,o,none⟩=v)(hb:b<B:=by omega):w'.cell? ⟨b,o,none⟩=v:=(h.cell hb).trans e
theorem aIX{n m:Nat}{a b c:World}(h:Hid (Below n a b))(k:Below m b c)(e:n≤m:=by omega):Hid (Below n a c):=jq (h.out.trans (k.mono e))
theorem aKQ.{u}{α:Sort u}(e:α):∃ r,r=e:=⟨_,rfl⟩
abbrev aOJ(n:Nat)(w:World)(v:Value)(e:Ending)(w':World):Prop:=e = .returned v/\Below n w w'
abbrev aPQ(w:World)(v:Value)(e:Ending)(w':World):Prop:=e = .returned v/\w=w'
abbrev aPK(α:Type):=World->Nat->List Value->α->Prop
theorem aJZ.{u}{α:Sort u}(e:α):∃ r,e=r:=⟨_,rfl⟩
theorem _root_.Go.RowKit.Below.aKZ{n m:Nat}{a b:World}(h:Below m a b)(e:n≤m:=by omega):Below n a b:=h.mono e
theorem aKX{p:Prop}[Decidable p](h:¬p:=by omega):decide p=false:=decide_eq_false h
theorem aLQ{p:Prop}[Decidable p](h:p:=by omega):decide p=true:=decide_eq_true h
theorem aLJ.{u}{α:Type u}{a b:α}(h:a=b:=by kernel_rfl):some a=some b:=congrArg some h
def bO(w:World):Type:={ x:World // Below w.heap.size w x }
def bO.w{w:World}(g:bO w):World:=g.1
theorem bO.below{w:World}(g:bO w):Below w.heap.size w g.w:=g.2
instance (w:World):Nonempty (bO w):=⟨⟨w,vQ _ _⟩⟩
theorem bO.cell{w:World}(g:bO w)(p:Addr)(h:p.block<w.heap.size):g.w.cell? p=w.cell? p:=g.2.cell h
theorem bO.frozen{w:World}(g:bO w)(p:Addr)(h:p.block<w.heap.size):g.w.frozen? p=w.frozen? p:=g.2.frozen h
theorem bO.size{w:World}(g:bO w):w.heap.size<=g.w.heap.size:=g.2.size
def y5(w:World)(w':World):Prop:=∃ g:bO w,w'=g.w
theorem y5.of{w w':World}(h:Below w.heap.size w w'):y5 w w':=⟨⟨w',h⟩,rfl⟩
theorem Calls.grow_of{P:Program}{f:FuncId}{args:Array Value}{w:World}{g:bO w}{v:Value}
 (h:Calls P f args g.w λe w'=>e = .returned v/\Below g.w.heap.size g.w w'):Calls P f args g.w λe w''=>e = .returned v/\∃ g':bO w,w''=g'.w:=
 h.mono λ_ w' ⟨he,hm⟩=>⟨he,⟨w',g.2.trans (hm.mono g.2.size)⟩,rfl⟩
section
variable {P:Program}
theorem eZ{id:Nat}{Q:Exit->Act->World->Prop}{a:Act}{w:World}{l:List Oper}(hm:P.follows .mixedOrders=true)(hB:Region.lexB .any l.toArray=true)
 (h:wpQuiet P l.toArray (λw'=>∃ g:bO w,w'=g.w) (λa'=>∀ w',(∃ g:bO w,w'=g.w)->Q .normal a' w') l a):(Code.region id l.toArray true).wp P Q a w:=
 wp_region_quiet (C:=λw'=>∃ g:bO w,w'=g.w) hm hB ⟨⟨_,(vQ w.heap.size w).drew⟩,rfl⟩ (by simpa using h)
end
theorem tf{W w1:World}(hb:Below W.heap.size W w1):(∀ b o,b<W.heap.size->w1.cell? ⟨b,o,none⟩=W.cell? ⟨b,o,none⟩)/\(∀ b o,b<W.heap.size->w1.frozen? ⟨b,o,none⟩=W.frozen? ⟨b,o,none⟩):=
 ⟨λb o h=>hb.cell (p:=⟨b,o,none⟩) h,λb o h=>hb.frozen (p:=⟨b,o,none⟩) h⟩
theorem ae{a b:Bool}(h:a=b):Ending.returned (.bool a) = .returned (.bool b):=by rw[h]
theorem jK{k:IntKind}{a b:Int}(h:a=b):Ending.returned (.int k a) = .returned (.int k b):=by rw[h]
theorem bk(s:ByteArray):s.data.toList.length=s.size:=rfl
theorem ya(s:ByteArray)(k:Nat)(h:k<s.size):s.data.toList[k]?=some s[k]:=by
 rw[aQ (by rw[bk];exact h)];rfl
theorem Bd(s:ByteArray)(h:0<s.size):s.data.toList.head?=some s[0]:=by
 rw[List.head?_eq_getElem?];exact ya s 0 h
theorem Ey(s:ByteArray)(h:s.size - 1<s.size):s.data.toList.getLast?=some s[s.size - 1]:=by
 rw[List.getLast?_eq_getElem?,bk];exact ya s _ h
theorem Kc(s:ByteArray)(k:Nat)(h:k<s.size):s.data.toList.take (k+1)=s.data.toList.take k ++ [s[k]]:=by
 rw[fQ (by simpa using h)];rfl
theorem E8(s:ByteArray)(k:Nat)(h:s.size<=k):s.data.toList.take k=s.data.toList:=kQ (by rw[bk];exact h)
theorem oY(c:UInt8)(n:Nat)(hn:n<256):(c == UInt8.ofNat n)=decide ((c.toNat:Int)=n):=by
 rw[Bool.eq_iff_iff];simp only[beq_iff_eq,Qa];constructor
 ·rintro rfl;simp;omega
 ·intro h;apply UInt8.toNat_inj.1;simp;omega
theorem yV(c:UInt8):0<=(c.toNat:Int)/\(c.toNat:Int)<=255:=by have:=UInt8.toNat_lt c;omega
theorem mT{s t:ByteArray}(h:s.data.toList=t.data.toList):s=t:=by
 cases s;cases t;simp only at h |-;congr 1;exact Array.toList_inj.1 h
theorem Hb(s:ByteArray)(i j:Nat):(s.extract i j).data.toList=(s.data.toList.take j).drop i:=by
 rw[ByteArray.data_extract];simp[Array.toList_extract,List.extract_eq_take_drop,List.drop_take]
theorem Dq(s:ByteArray)(i:Nat):(s.extract i s.size).data.toList=s.data.toList.drop i:=by
 rw[Hb,kQ (by rw[bk];exact bQ _)]
theorem Ds(s:ByteArray)(j:Nat):(s.extract 0 j).data.toList=s.data.toList.take j:=by rw[Hb];rfl
theorem RG{P:Program}{id:Nat}{Q:Exit->Act->World->Prop}{a:Act}{w:World}{l:List Oper}(n:Nat)(hm:P.follows .mixedOrders=true)(hB:Region.lexTailB .any l.toArray n=true)
 (h:wpStill P l.toArray w.drew (λa'=>wpList P l.toArray Q (l.drop n) a' w.drew) (l.take n) a):(Code.region id l.toArray true).wp P Q a w:=wp_region_still_tail n hm hB h
theorem Calls.still_same{P:Program}{f:FuncId}{args:Array Value}{w:World}{v:Value}(h:Calls P f args w λe w'=>e = .returned v/\w=w'):Calls P f args w λe w''=>e = .returned v/\w''=w:=
 h.mono λ_ _ ⟨he,hw⟩=>⟨he,hw.symm⟩
def gG(w:World)(b o:Nat)(e:List Value):Prop:=∀ j v,e[j]?=some v->w.cell? ⟨b,o+j,none⟩=some v
theorem gG.keep{w w':World}{b o:Nat}{e:List Value}{B:Nat}(h:gG w b o e)(hb:Below B w w')(hB:b<B):gG w' b o e:=
 λj v hj=>(hb.cell (p:=⟨b,o+j,none⟩) hB).trans (h j v hj)
def SlR{α:Type}(R:aPK α)(sz:Nat)(w:World)(B:Nat)(v:Value)(xs:List α):Prop:=
 ∃ (A:Option Addr) (c:Nat),v = .slice A xs.length c/\xs.length<=c/\xs.length<=140737488355328/\∀ i x,xs[i]?=some x->∃ b o e,A=some ⟨b,o,none⟩/\b<B/\e.length=sz/\gG w b (o+i * sz) e/\R w B e x
def dH{α:Type}(R:aPK α):Prop:=∀ w w' B e x,R w B e x->Below B w w'->R w' B e x
theorem SlR.keep{α:Type}{R:aPK α}{sz:Nat}{w w':World}{B:Nat}{v:Value}{xs:List α}(hR:dH R)(h:SlR R sz w B v xs)(hb:Below B w w'):SlR R sz w' B v xs:=by
 obtain⟨A,c,hv,hc,hl,he⟩:=h;refine⟨A,c,hv,hc,hl,λi x hx=>?_⟩;obtain⟨b,o,e,hA,hB,aY,hce,hr⟩:=he i x hx;exact⟨b,o,e,hA,hB,aY,hce.keep hb hB,hR _ _ _ _ _ hr hb⟩
def eh{α:Type}(R:aPK α):Prop:=∀ w B B' e x,R w B e x->B<=B'->R w B' e x
theorem SlR.more{α:Type}{R:aPK α}{sz:Nat}{w:World}{B B':Nat}{v:Value}{xs:List α}(hR:eh R)(h:SlR R sz w B v xs)(hB:B<=B'):SlR R sz w B' v xs:=by
 obtain⟨A,c,hv,hc,hl,he⟩:=h;refine⟨A,c,hv,hc,hl,λi x hx=>?_⟩;obtain⟨b,o,e,hA,hb,aY,hce,hr⟩:=he i x hx;exact⟨b,o,e,hA,by omega,aY,hce,hR _ _ _ _ _ hr hB⟩
theorem aMQ{P:Program}{id:Nat}{Q:Exit->Act->World->Prop}{a:Act}{w:World}{l:List Oper}(h:wpQuiet P l.toArray (λw'=>∃ g:bO w,w'=g.w) (λa'=>∀ w',(∃ g:bO w,w'=g.w)->Q .normal a' w') l a)(hm:P.follows .mixedOrders=true:=by kernel_rfl)(hB:Region.lexB .any l.toArray=true:=by kernel_rfl):(Code.region id l.toArray true).wp P Q a w:=eZ hm hB h
end
namespace Np
def qK(c:UInt8):Bool:=97<=c&&c<=122
def nK(c:UInt8):Bool:=48<=c&&c<=57
def mN(c:UInt8):Bool:=qK c||nK c||c == 45
def cD(l:List UInt8):Bool:=decide (1<=l.length)&&decide (l.length<=12)&&!(l.head? == some 45)&&!(l.getLast? == some 45)&&l.all mN
def GQ(l:List UInt8)(c:UInt8)(r:Int):Prop:=(r = -1/\c∉l)\/∃ a b,l=a++c::b/\c∉b/\r=a.length
def aZ:List UInt8->List (List UInt8)
 | []=>[[]]
 | c::r=>if c=46 then []::aZ r else match aZ r with
   | x::xs=>(c::x)::xs
   | []=>[[c]]
theorem qV(l:List UInt8):aZ l≠[]:=by
 cases l with
 | nil=>simp[aZ]
 | cons c r=>
  unfold aZ;split
  ·simp
  ·split <;> simp
theorem yR{l:List UInt8}(h:46∉l):aZ l = [l]:=by
 induction l with
 | nil=>rfl
 | cons c r ih=>
  have h1:c≠46:=λe=>h (by simp[e]);have h2:46∉r:=λe=>h (by simp[e]);unfold aZ;rw[Qc h1,ih h2]
theorem Cl(a b:List UInt8):aZ (a++46::b)=aZ a++aZ b:=by
 induction a with
 | nil=>simp[aZ]
 | cons c r ih=>
  rw[List.cons_append];by_cases h:c=46
  ·rw[aZ,Qb h,aZ,Qb h,ih];rfl
  ·rw[aZ,Qc h,aZ,Qc h,ih];have hne:=qV r
   cases hr:aZ r with
   | nil=>exact absurd hr hne
   | cons x xs=>rfl
def back(l:List UInt8):List (List UInt8):=if l = [46] then [] else (aZ l).reverse
def fq:List (List UInt8)->Nat->Bool->Bool
 | [],_,_=>true
 | x::xs,n,wild=>if wild||decide (8<n+1) then false else if x = [42] then fq xs (n+1) true else if cD x then fq xs (n+1) false else false
def aG(l:List UInt8):Bool:=if l = [46] then true else if 60<l.length then false else fq (aZ l).reverse 0 false
theorem J6{l y:List UInt8}(h:y∈aZ l):y.length<=l.length:=by
 induction l generalizing y with
 | nil=>simp[aZ] at h;subst h;simp
 | cons c r ih=>
  unfold aZ at h;split at h
  ·rcases List.mem_cons.1 h with e | e
   ·subst e;simp
   ·have:=ih e;simp;omega
  ·split at h
   ·rename_i x xs hx;rcases List.mem_cons.1 h with e | e
    ·subst e;have:=ih (y:=x) (by rw[hx];simp);simp;omega
    ·have:=ih (y:=y) (by rw[hx];simp[e]);simp;omega
   ·simp at h;subst h;simp
theorem Df{l y:List UInt8}(h:y∈back l):y.length<=l.length:=by
 unfold back at h;split at h
 ·cases h
 ·exact J6 (List.mem_reverse.1 h)
def oD(c:UInt8):Bool:=qK c||nK c||c == 32
def kh(l:List UInt8):Bool:=decide (1<=l.length)&&decide (l.length<=40)&&!(l.head? == some 32)&&!(l.getLast? == some 32)&&l.all oD
def eF(l:List UInt8):Bool:=l.head? == some 42
structure Rule where
 text:Int
 leastN:Int
 mostN:Int
 leastM:Int
 mostM:Int
 even:Bool
 single:Bool
 wild:Bool
structure Datum where
 text:List UInt8
 n:Int
 m:Int
deriving DecidableEq
def wP(k:Int)(l:List UInt8):Bool:=if k=1 then aG l&&!eF l else if k=2 then aG l else if k=3 then kh l else l == []
def kn(r:Rule)(d:Datum):Bool:=
 (decide (r.leastN<=d.n)&&decide (d.n<=r.mostN))&&(decide (r.leastM<=d.m)&&decide (d.m<=r.mostM))&&!(r.even&&(d.n.tmod 2 != 0))&&wP r.text d.text
def cN(a b:List UInt8):Int:=if Go.Op.bytesLess a b then -1 else if a=b then 0 else 1
def cP(a b:Int):Int:=if a<b then -1 else if b<a then 1 else 0
def qo(a b:Datum):Int:=if cN a.text b.text≠0 then cN a.text b.text else if cP a.n b.n≠0 then cP a.n b.n else cP a.m b.m
def rules:List Rule:=[⟨0,0,0,0,0,false,false,false⟩,⟨0,1,1000000,0,0,false,false,true⟩,⟨1,0,0,0,0,false,false,false⟩,⟨1,0,0,0,0,false,true,false⟩,⟨0,0,65535,0,100000,false,true,false⟩,
 ⟨3,0,0,0,0,false,false,true⟩,⟨0,1,1000000,1,3,false,false,false⟩,⟨0,1,1000000,1,3,false,false,false⟩,⟨2,2,510,0,0,true,false,true⟩]
def bV(k:Int):Rule:=rules.getD k.toNat ⟨0,0,0,0,0,false,false,false⟩
structure DSet where
 name:List UInt8
 type:Int
 life:Int
 data:List Datum
deriving DecidableEq
def jz(r:Rule):Option Datum->List Datum->Bool
 | _,[]=>true
 | p,d::ds=>kn r d&&(match p with | none=>true | some q=>decide (qo q d<0))&&jz r (some d) ds
def dC(s:DSet):Bool:=
 aG s.name&&(decide (1<=s.type)&&decide (s.type<=8))&&(decide (0<=s.life)&&decide (s.life<=100000))&&(decide (1<=s.data.length)&&decide (s.data.length<=8)) &&
 !((bV s.type).single&&decide (s.data.length≠1))&&!(eF s.name&&!(bV s.type).wild)&&jz (bV s.type) none s.data
theorem Nd{r:Rule}{p:Option Datum}{ds:List Datum}{j:Nat}{d:Datum}(hd:ds[j]?=some d)(h:kn r d=false):jz r p (ds.drop j)=false:=by
 rw[sQ (cQ.1 hd).1,(cQ.1 hd).2];simp[jz,h]
theorem Nf{r:Rule}{ds:List Datum}{d:Datum}(hd:ds[0]?=some d)(h:kn r d=true):jz r (ds.take 0).getLast? (ds.drop 0)=jz r (ds.take 1).getLast? (ds.drop 1):=by
 cases ds with
 | nil=>simp at hd
 | cons x r=>simp at hd;subst hd;simp[jz,h]
theorem Ng{r:Rule}{ds:List Datum}{j:Nat}{q d:Datum}(hq:ds[j]?=some q)(hd:ds[j+1]?=some d)(h:kn r d=true) :
 jz r (ds.take (j+1)).getLast? (ds.drop (j+1))=if qo q d<0 then jz r (ds.take (j+1+1)).getLast? (ds.drop (j+1+1)) else false:=by
 have h1:=(cQ.1 hq);have h2:=(cQ.1 hd);rw[sQ h2.1,h2.2,fQ h1.1,h1.2,fQ h2.1,h2.2];simp only[List.getLast?_append,List.getLast?_singleton,Option.some_or,jz,h];split <;> rename_i hc <;> simp[hc]
end Np
section
open Go.RowKit
theorem PB(c:UInt8):Np.mN c=decide ((97<=(c.toNat:Int)/\(c.toNat:Int)<=122)\/(48<=(c.toNat:Int)/\(c.toNat:Int)<=57)\/(c.toNat:Int)=45):=by
 have h:=oY c 45 (by decide);unfold Np.mN Np.qK Np.nK;rw[show (45:UInt8)=UInt8.ofNat 45 from rfl,h,Bool.eq_iff_iff];simp[UInt8.le_iff_toNat_le];omega
theorem YU(s:ByteArray)(h:(s.size:Int)<1):Np.cD s.data.toList=false:=by
 have:¬ 1<=s.size:=by omega
 simp[Np.cD,this]
theorem YV(s:ByteArray)(h:12<(s.size:Int)):Np.cD s.data.toList=false:=by
 have:¬ s.size<=12:=by omega
 simp[Np.cD,this]
theorem YW(s:ByteArray)(h0:0<s.size)(h:(s[0].toNat:Int)=45):Np.cD s.data.toList=false:=by
 have e:=oY s[0] 45 (by decide);rw[uQ (by simpa using h)] at e;have e2:s[0]=(45:UInt8):=by simpa using e
 simp[Np.cD,Bd s h0,e2]
theorem YX(s:ByteArray)(h0:s.size - 1<s.size)(h:(s[s.size - 1].toNat:Int)=45):Np.cD s.data.toList=false:=by
 have e:=oY s[s.size - 1] 45 (by decide);rw[uQ (by simpa using h)] at e;have e2:s[s.size - 1]=(45:UInt8):=by simpa using e
 simp[Np.cD,Ey s h0,e2]
theorem YY(s:ByteArray)(k:Nat)(hk:k<s.size)(h:Np.mN s[k]=false):Np.cD s.data.toList=false:=by
 have:s.data.toList.all Np.mN=false:=by
  rw[List.all_eq_false];exact⟨s[k],by rw[<-cQ.1 (ya s k hk) |>.2];exact List.getElem_mem _,by simp[h]⟩
 simp[Np.cD,this]
theorem YZ(s:ByteArray)(h1:1<=s.size)(h2:s.size<=12)(h3:¬ (s[0].toNat:Int)=45)(h4:¬ (s[s.size - 1].toNat:Int)=45)(h5:s.data.toList.all Np.mN=true):Np.cD s.data.toList=true:=by
 have e:=oY s[0] 45 (by decide);have e':=oY s[s.size - 1] 45 (by decide);rw[tQ (by simpa using h3)] at e;rw[tQ (by simpa using h4)] at e';have e2:¬ s[0]=(45:UInt8):=by simpa using e
 have e3:¬ s[s.size - 1]=(45:UInt8):=by simpa using e'
 simp[Np.cD,Ey s (by omega),Bd s (by omega),e2,e3,h5,h1,h2]
theorem GW(s:ByteArray)(k:Nat)(h:k<s.size)(p:UInt8->Bool)(h1:(s.data.toList.take k).all p=true)(h2:p s[k]=true):(s.data.toList.take (k+1)).all p=true:=by
 rw[Kc s k h,List.all_append,h1];simp[h2]
theorem Y0(s:ByteArray)(hs:s.size<=140737488355328)(w:World) :
 Calls prog 245 #[.string s] w (aPQ w (.bool (Np.cD s.data.toList))):=by
 go_enter func245,ntmps245;go_wp2
 ·go_ret;exact⟨ae (YU s ‹_›).symm,rfl⟩
 ·go_ret;exact⟨ae (YV s ‹_›).symm,rfl⟩
 ·go_ret;exact⟨ae (YW s ‹_› ‹_›).symm,rfl⟩
 ·have h:((s[s.size - 1].toNat:Int) == 45)=true:=by assumption
  go_ret;exact⟨ae (YX s (by omega) (by simpa using h)).symm,rfl⟩
 ·have h1:1<=(s.size:Int):=by assumption
  have h2:(s.size:Int)<=12:=by assumption
  have h3:¬ (s[0].toNat:Int)=45:=by assumption
  have h4:((s[s.size - 1].toNat:Int) == 45)=false:=by assumption
  have H4:=jq h4;clear h4;have H3:=jq h3;go_loop [28] (λi=>∃ k:Nat,k<=s.size/\i = .int .i64 k/\(s.data.toList.take k).all Np.mN=true) (λi=>s.size - (intOf i).toNat)
  case atStart=>exact⟨0,jQ _,rfl,rfl⟩
  case round=>
   obtain⟨k,hk,rfl,ha⟩:=hrel;have HA:=jq ha;clear ha;by_cases aa:k<s.size
   ·have hb:=yV s[k];go_wp2
    all_goals first
     | (have hne:((s[k].toNat:Int) != 45)=true:=by assumption
        have BA:=bne_iff_ne.1 hne;go_ret;exact⟨ae (YY s k aa (by rw[PB];exact aKX)).symm,rfl⟩)
     | (have hl:Np.mN s[k]=true:=by
         rw[PB];refine uQ ?_
         first
          | omega
          | (have hne:((s[k].toNat:Int) != 45)=false:=by assumption
             have BA:(s[k].toNat:Int)=45:=by simpa using hne
             omega)
        go_round
        case rel=>exact⟨k+1,by omega,by go_num,GW s k aa _ HA.out hl⟩
        case measure=>simp[intOf] <;> omega)
   ·go_wp2;go_ret;exact⟨ae (YZ s (by omega) (by omega) H3.out (by simpa using H4.out) (by have:=HA.out;rwa [E8 s k (by omega)] at this)).symm,rfl⟩
theorem ayY(c:Int)(h0:0<=c)(h1:c<=255)(x:UInt8):x=UInt8.ofNat c.toNat↔(x.toNat:Int)=c:=by
 have h:=oY x c.toNat (by omega);rw[Bool.eq_iff_iff] at h;simp only[beq_iff_eq,Qa] at h;rw[h];omega
theorem Zl(s:ByteArray)(c:UInt8)(h:c∉s.data.toList.drop 0):Np.GQ s.data.toList c (-1):=.inl ⟨rfl,by simpa using h⟩
theorem Zm(s:ByteArray)(c:UInt8)(k:Nat)(hk:k<s.size)(h:c∉s.data.toList.drop (k+1))(hc:s[k]=c):Np.GQ s.data.toList c (k:Int):=by
 refine .inr ⟨s.data.toList.take k,s.data.toList.drop (k+1),?_,h,?_⟩
 ·subst hc;rw[show s[k]=s.data.toList[k]'(by rw[bk];exact hk) from rfl,<-sQ,List.take_append_drop]
 ·simp;have:=bk s;simp at this;omega
theorem VB(s:ByteArray)(c:UInt8)(k:Nat)(hk:k<s.size)(h:c∉s.data.toList.drop (k+1))(hc:¬ s[k]=c):c∉s.data.toList.drop k:=by
 rw[sQ (by rw[bk];exact hk)];intro hm;rcases List.mem_cons.1 hm with e | e
 ·exact hc e.symm
 ·exact h e
def Kz(s:ByteArray)(c:UInt8)(w:World)(e:Ending)(w':World):Prop:=∃ r:Int,Np.GQ s.data.toList c r/\e = .returned (.int .i64 r)/\w=w'
theorem Zn(s:ByteArray)(hs:s.size<=140737488355328)(c:Int)(h0:0<=c)(h1:c<=255)(w:World) :
 Calls prog 345 #[.string s,.int .u8 c] w (Kz s (UInt8.ofNat c.toNat) w):=by
 go_enter func345,ntmps345;go_wp2;go_loop [5] (λi=>∃ k:Int,-1<=k/\k<s.size/\i = .int .i64 k/\Hid (UInt8.ofNat c.toNat∉s.data.toList.drop (k+1).toNat)) (λi=>(intOf i+1).toNat)
 case atStart=>exact⟨_,by omega,by omega,rfl,jq (by rw[List.drop_eq_nil_of_le (by rw[bk];omega)];simp)⟩
 case round=>
  obtain⟨k,bF,bL,rfl,H⟩:=hrel;by_cases aa:0<=k
  ·obtain⟨j,rfl⟩:=Int.eq_ofNat_of_zero_le aa;have hj:j<s.size:=by omega
   have hb:=yV s[j];have hd:=ayY c h0 h1 s[j];have HD:=jq hd;clear hd;go_wp2
   all_goals first
    | (have he:((s[j].toNat:Int) == c)=true:=by assumption
       go_ret;exact⟨j,Zm s _ j hj (by simpa using H.out) (HD.out.2 (by simpa using he)),rfl,rfl⟩)
    | (have he:((s[j].toNat:Int) == c)=false:=by assumption
       go_round
       case rel=>exact⟨(j:Int) - 1,by omega,by omega,rfl,jq (by have:=VB s _ j hj (by simpa using H.out) (λe=>by have:=HD.out.1 e;simp[this] at he);simpa using this)⟩
       case measure=>simp[intOf] <;> omega)
  ·obtain rfl:k = -1:=by omega
   go_wp2;go_ret;exact⟨-1,Zl s _ (by simpa using H.out),rfl,rfl⟩
theorem JC(s:ByteArray)(hs:s.size<=140737488355328)(c:Int)(h0:0<=c)(h1:c<=255)(w:World) :
 Calls prog 298 #[.string s,.int .u8 c] w (Kz s (UInt8.ofNat c.toNat) w):=by
 go_enter func298,ntmps298;go_wp2_with (go_at_call 345;refine (Zn _ hs _ h0 h1 _).mono ?_;rintro e w' ⟨r,hr,rfl,rfl⟩);go_ret;exact⟨r,hr,rfl,rfl⟩
end
namespace D
open Go.RowKit
structure Below(B:Nat)(w w':World):Prop where
 os:w'.os=w.os
 tape:w'.tape=w.tape
 output:w'.output=w.output
 size:w.heap.size<=w'.heap.size
 block:∀ k,k<B->w'.heap[k]?=w.heap[k]?
 drawn:w.drawn<=w'.drawn
theorem Below.low{B:Nat}{w w':World}(h:Below B w w'):Go.RowKit.Below B w w':=⟨h.os,h.tape,h.output,h.size,h.block⟩
theorem vQ(B:Nat)(w:World):Below B w w:=⟨rfl,rfl,rfl,bQ _,λ_ _=>rfl,bQ _⟩
theorem Below.trans{B:Nat}{a b c:World}(h:Below B a b)(k:Below B b c):Below B a c:=
 ⟨k.os.trans h.os,k.tape.trans h.tape,k.output.trans h.output,yQ h.size k.size,λi hi=>(k.block i hi).trans (h.block i hi),yQ h.drawn k.drawn⟩
theorem Below.mono{B B':Nat}{w w':World}(h:Below B w w')(hB:B'<=B):Below B' w w':=⟨h.os,h.tape,h.output,h.size,λk hk=>h.block k (lQ hk hB),h.drawn⟩
theorem Below.drew{B:Nat}{a w:World}(h:Below B a w):Below B a w.drew:=⟨h.os,h.tape,h.output,h.size,h.block,Nat.le_succ_of_le h.drawn⟩
theorem Below.heap_alloc(w:World)(o:Obj)(k:Nat)(h:k<w.heap.size):(w.alloc o).heap[k]?=w.heap[k]?:=Go.RowKit.Below.heap_alloc w o k h
theorem wQ(w:World)(a:Addr)(u:Value)(k:Nat)(h:k≠a.block):(w.setCell a u).heap[k]?=w.heap[k]?:=Go.RowKit.Below.heap_setCell w a u k h
theorem Below.alloc{B:Nat}{a w:World}(h:Below B a w)(hB:B<=w.heap.size)(o:Obj):Below B a (w.alloc o):=
 h.trans ⟨rfl,rfl,rfl,by simp,λk hk=>Below.heap_alloc _ _ _ (by omega),bQ _⟩
theorem Below.setCell{B:Nat}{a w:World}(h:Below B a w){p:Addr}(hp:B<=p.block)(u:Value):Below B a (w.setCell p u):=
 h.trans ⟨rfl,rfl,rfl,by simp[World.setCell],λk hk=>wQ _ _ _ _ (by omega),bQ _⟩
theorem Below.cell{B:Nat}{w w':World}(h:Below B w w'){p:Addr}(hp:p.block<B):w'.cell? p=w.cell? p:=h.low.cell hp
theorem Below.frozen{B:Nat}{w w':World}(h:Below B w w'){p:Addr}(hp:p.block<B):w'.frozen? p=w.frozen? p:=h.low.frozen hp
structure ItStep(B:Nat)(S:Nat->Prop)(W W':World):Prop where
 os:W'.os=W.os
 tape:W'.tape=W.tape
 output:W'.output=W.output
 size:W.heap.size<=W'.heap.size
 keep:∀ k,k<W.heap.size->(k<B\/S k)->W'.heap[k]?=W.heap[k]?
 drawn:W.drawn<=W'.drawn
structure RdStep(S:Nat->Prop)(W W':World):Prop where
 os:W'.os=W.os
 tape:W'.tape=W.tape
 output:W'.output=W.output
 size:W.heap.size<=W'.heap.size
 keep:∀ k,k<W.heap.size->¬ S k->W'.heap[k]?=W.heap[k]?
 drawn:W.drawn<=W'.drawn
theorem ItStep.refl(B:Nat)(S:Nat->Prop)(W:World):ItStep B S W W:=⟨rfl,rfl,rfl,bQ _,λ_ _ _=>rfl,bQ _⟩
theorem RdStep.refl(S:Nat->Prop)(W:World):RdStep S W W:=⟨rfl,rfl,rfl,bQ _,λ_ _ _=>rfl,bQ _⟩
theorem ItStep.trans{B:Nat}{S:Nat->Prop}{A W C:World}(h:ItStep B S A W)(k:ItStep B S W C):ItStep B S A C:=
 ⟨k.os.trans h.os,k.tape.trans h.tape,k.output.trans h.output,yQ h.size k.size,λi hi hs=>(k.keep i (lQ hi h.size) hs).trans (h.keep i hi hs),yQ h.drawn k.drawn⟩
theorem RdStep.trans{S S':Nat->Prop}{A W C:World}(h:RdStep S A W)(k:RdStep S' W C)(hS:∀ i,S' i->S i\/A.heap.size<=i):RdStep S A C:=
 ⟨k.os.trans h.os,k.tape.trans h.tape,k.output.trans h.output,yQ h.size k.size,λi hi hs=>
  (k.keep i (lQ hi h.size) (λe=>by rcases hS i e with e | e;exact hs e;omega)).trans (h.keep i hi hs),yQ h.drawn k.drawn⟩
theorem RdStep.mono{S S':Nat->Prop}{A W:World}(h:RdStep S A W)(hS:∀ i,S i->S' i):RdStep S' A W:=
 ⟨h.os,h.tape,h.output,h.size,λi hi hs=>h.keep i hi (λe=>hs (hS i e)),h.drawn⟩
theorem ItStep.of_below{B:Nat}{S:Nat->Prop}{A W:World}(h:Below A.heap.size A W):ItStep B S A W:=
 ⟨h.os,h.tape,h.output,h.size,λk hk _=>h.block k hk,h.drawn⟩
theorem RdStep.of_below{S:Nat->Prop}{A W:World}(h:Below A.heap.size A W):RdStep S A W:=
 ⟨h.os,h.tape,h.output,h.size,λk hk _=>h.block k hk,h.drawn⟩
theorem RdStep.below{S:Nat->Prop}{A W:World}{n:Nat}(h:RdStep S A W)(hn:n<=A.heap.size)(hS:∀ k,S k->n<=k):Below n A W:=
 ⟨h.os,h.tape,h.output,h.size,λk hk=>h.keep k (by omega) (λe=>by have:=hS k e;omega),h.drawn⟩
theorem RdStep.setCell{S:Nat->Prop}{A W:World}(h:RdStep S A W){p:Addr}(hp:S p.block\/A.heap.size<=p.block)(u:Value):RdStep S A (W.setCell p u):=
 ⟨h.os,h.tape,h.output,by simpa [World.setCell] using h.size,λk hk hs=>(wQ _ _ _ _ (by rintro rfl;rcases hp with hp | hp;exact hs hp;omega)).trans (h.keep k hk hs),h.drawn⟩
theorem RdStep.alloc{S:Nat->Prop}{A W:World}(h:RdStep S A W)(o:Obj):RdStep S A (W.alloc o):=
 ⟨h.os,h.tape,h.output,yQ h.size (by simp),λk hk hs=>(Below.heap_alloc _ _ _ (lQ hk h.size)).trans (h.keep k hk hs),h.drawn⟩
theorem RdStep.drew{S:Nat->Prop}{A W:World}(h:RdStep S A W):RdStep S A W.drew:=⟨h.os,h.tape,h.output,h.size,h.keep,Nat.le_succ_of_le h.drawn⟩
theorem RdStep.then_below{S:Nat->Prop}{A W C:World}(h:RdStep S A W)(k:Below W.heap.size W C):RdStep S A C:=
 ⟨k.os.trans h.os,k.tape.trans h.tape,k.output.trans h.output,yQ h.size k.size,λi hi hs=>(k.block i (lQ hi h.size)).trans (h.keep i hi hs),yQ h.drawn k.drawn⟩
def fm{β:Type}(B:Nat)(J:β->(Nat->Prop)->World->Prop):Prop:=∀ s S W W',J s S W->ItStep B S W W'->J s S W'
def Da{α:Type}(J Jx:List α->(Nat->Prop)->World->Prop)(pre:List α)(x:α)(S:Nat->Prop)(W:World)(e:Ending)(W':World):Prop:=
 ∃ S':Nat->Prop,RdStep S W W'/\(∀ k,S' k->S k\/W.heap.size<=k)/\(∀ k,S' k->k<W'.heap.size)/\
   ((e = .returned (.bool true)/\J (pre ++ [x]) S' W')\/(e = .returned (.bool false)/\Jx (pre ++ [x]) S' W'))
def tc{α:Type}(P:Program)(gf:FuncId)(mk:Value->Array Value)(encs:α->Array Value)(xs:List α)(n₀:Nat)(w:World):Prop:=
 ∀ (l:Nat) (J Jx:List α->(Nat->Prop)->World->Prop) (S:Nat->Prop) (W:World),Below n₀ w W->
   fm W.heap.size J->fm W.heap.size Jx->
   (∀ pre x S1 W1,pre ++ [x] <+: xs->J pre S1 W1->(∀ k,S1 k->k<W1.heap.size)->W.heap.size<=W1.heap.size->
     YieldAt Fence.wide 0 P l (encs x) W1 (Da J Jx pre x S1 W1))->
   (∀ k,S k->n₀<=k)->(∀ k,S k->k<W.heap.size)->J [] S W->
   CallsIn Fence.wide 0 P gf (mk (.func (.yield l) #[] #[])) W λe W'=>(∃ v,e = .returned v)/\
    ((∃ S',J xs S' W'/\(∀ k,S' k->S k\/W.heap.size<=k))\/(∃ pre S',pre <+: xs/\Jx pre S' W'/\(∀ k,S' k->S k\/W.heap.size<=k)))
def ni{α:Type}(I:List α->(Nat->Prop)->World->Prop)(Ix:Code->List α->(Nat->Prop)->World->Prop)(xs:List α)(S:Nat->Prop)(W:World):Exit->Act->World->Prop
 | .normal,_,W'=>∃ S',RdStep S W W'/\(∀ k,S' k->S k\/W.heap.size<=k)/\(∀ k,S' k->k<W'.heap.size)/\I xs S' W'
 | .ret,_,W'=>∃ S',RdStep S W W'/\(∀ k,S' k->S k\/W.heap.size<=k)/\(∀ k,S' k->k<W'.heap.size)/\Ix .ret xs S' W'
 | .exit id,_,W'=>∃ S',RdStep S W W'/\(∀ k,S' k->S k\/W.heap.size<=k)/\(∀ k,S' k->k<W'.heap.size)/\Ix (.exit id) xs S' W'
 | _,_,_=>False
theorem jG{B:Nat}{S:Nat->Prop}{W:World}{l:Nat}(o:Obj)(hl:B<=l)(hS:¬ S l):ItStep B S W (W.putObj l o):=
 ⟨rfl,rfl,rfl,by simp,λk _ hk=>zQ (by rintro rfl;rcases hk with hk | hk;omega;exact hS hk),bQ _⟩
theorem sD{B:Nat}{S:Nat->Prop}{W:World}(o:Obj):ItStep B S W (W.alloc o):=
 ⟨rfl,rfl,rfl,by simp,λk hk _=>Below.heap_alloc _ _ _ hk,bQ _⟩
theorem ItStep.weaken{B B':Nat}{S S':Nat->Prop}{W W':World}(h:ItStep B S W W')(hB:B'<=B)(hS:∀ k,S' k->S k):ItStep B' S' W W':=
 ⟨h.os,h.tape,h.output,h.size,λk hk hs=>h.keep k hk (hs.imp (λe=>by omega) (hS k)),h.drawn⟩
theorem Kt{α:Type}{P:Program}{g:Operand}{ps:Array Tmp}{assign body:Code}{Q:Exit->Act->World->Prop}{a:Act}{w:World}
 {gf:FuncId} {first captured:Array Value} (hg:a.eval g = .func (.func gf) first captured) (eg:∀ args w,(callFunc gf args).run P w = .ok (.enter gf args) w)
 {mk:Value->Array Value} {encs:α->Array Value} {xs:List α} {n₀:Nat} {w0:World} (gK:∀ y,mk y=first ++ #[y]++captured)
 (hit:tc P gf mk encs xs n₀ w0) (bW:Below n₀ w0 w) (lU:n₀<=w.heap.size) (fz:∀ x,(encs x).size=ps.size)
 (I:List α->(Nat->Prop)->World->Prop) (Ix:Code->List α->(Nat->Prop)->World->Prop) (A:List α->α->(Nat->Prop)->Act->World->Prop)
 (hI:fm w.heap.size I) (jg:∀ c,fm w.heap.size (Ix c)) (hA:∀ pre x S a' W W',A pre x S a' W->ItStep w.heap.size S W W'->A pre x S a' W')
 (S0:Nat->Prop) (pz:∀ k,S0 k->n₀<=k) (kF:∀ k,S0 k->k<w.heap.size) (h0:I [] S0 w)
 (AK:∀ (l:Nat) (pre:List α) (x:α) (S:Nat->Prop) (W:World),pre ++ [x] <+: xs->I pre S W->(∀ k,S k->k<W.heap.size)->
   assign.wpIn (Fence.wide.inRound l) 0 P (Exit.then (λa₁ W₁=>∃ S',RdStep S W W₁/\(∀ k,S' k->S k\/W.heap.size<=k)/\(∀ k,S' k->k<W₁.heap.size)/\A pre x S' a₁ W₁) (λ_ _ _=>False))
    { tmps:=(ps.zip (encs x)).foldl (λt (p,v)=>t.setIfInBounds p v) a.tmps,defers:=[] } W)
 (AS:∀ (l:Nat) (pre:List α) (x:α) (S:Nat->Prop) (a₁:Act) (W:World),pre ++ [x] <+: xs->A pre x S a₁ W->(∀ k,S k->k<W.heap.size)->
   body.wpIn (Fence.wide.inRound l) 0 P (ni I Ix (pre ++ [x]) S W) a₁ W)
 (nv:∀ (D:Nat) (S:Nat->Prop) (W:World),w.heap.size<=D->¬ S D->(∀ k,S k->S0 k\/w.heap.size<=k)->I xs S W->W.heap[D]?=some (.deferred (some []))->
   Q .normal { a with defers:={ target:=.collected D,args:=#[] } :: a.defers } W)
 (lY:∀ (D:Nat) (c:Code) (pre:List α) (S:Nat->Prop) (W:World),w.heap.size<=D->¬ S D->(∀ k,S k->S0 k\/w.heap.size<=k)->pre <+: xs->Ix c pre S W->W.heap[D]?=some (.deferred (some []))->
   c.wpIn Fence.wide 0 P Q { a with defers:={ target:=.collected D,args:=#[] } :: a.defers } W) :
 (Code.rangeFunc g ps assign body).wpIn Fence.wide 0 P Q a w:=by
 refine wpIn_rangeFunc ?_;intro fn ed;show ∃ (l:Nat) (mark:List Deferred) (w₁:World) (d:Deferred) (w₁':World) (f:FuncId) (args:Array Value) (w₂:World),(Instr.enterLoop fn a.tmps ps assign body none).run P w = .ok (l,mark) w₁/\_;obtain⟨rec,eW⟩:∃ rec:LoopState->Option Code->Loop,rec=λst pe=>{ state:=st,pending:=pe,fn,tmps:=a.tmps,params:=ps,assign,body,defers:=w.heap.size }:=⟨_,rfl⟩;obtain⟨W1,an⟩:=aJZ ((w.alloc (.deferred (some []))).alloc (.loop (rec .ready none)));have al:W1.heap.size=w.heap.size+2:=by rw[<-an];simp
 have mC:W1.heap[w.heap.size+1]?=some (.loop (rec .ready none)):=by
  rw[<-an];have:=World.alloc_heap_new (w.alloc (.deferred (some []))) (.loop (rec .ready none));rwa [World.size_alloc] at this
 have At:W1.heap[w.heap.size]?=some (.deferred (some [])):=by
  rw[<-an];exact (Below.heap_alloc _ _ _ (by simp)).trans (World.alloc_heap_new w _)
 have py:I [] S0 W1:=by rw[<-an];exact hI _ _ _ _ (hI _ _ _ _ h0 (sD _)) (sD _)
 have aq:Below n₀ w0 W1:=by
  rw[<-an];exact bW.trans ((((vQ _ w).alloc (bQ _) _).alloc (by simp) _).mono lU)
 refine⟨w.heap.size+1,[{ target:=.collected w.heap.size,args:=#[] }],W1,{ target:=.fn (.func gf) captured,args:=first ++ #[.func (.yield (w.heap.size+1)) #[] #[]] },W1,gf,
  first ++ #[.func (.yield (w.heap.size+1)) #[] #[]]++captured,W1,?_,?_,?_,?_,λh=>by simp[Fence.wide] at h,?_⟩
 ·rw[<-an,eW];exact run_enterLoop_outer _ _ _ _ _
 ·simp only[resolve,hg];simp[go_sem]
 ·intro f' _;trivial
 ·simp[invoke,go_sem,eg]
 ·rw[<-gK];have key:=hit (w.heap.size+1)
   (λpre Si W=>∃ S:Nat->Prop,(∀ k,Si k↔S k\/k=w.heap.size+1)/\(¬ S w.heap.size)/\(¬ S (w.heap.size+1))/\(∀ k,S k->S0 k\/w.heap.size<=k)/\I pre S W/\W.heap[w.heap.size+1]?=some (.loop (rec .ready none))/\W.heap[w.heap.size]?=some (.deferred (some [])))
   (λpre Si W=>∃ (S:Nat->Prop) (c:Code),(∀ k,Si k↔S k\/k=w.heap.size+1)/\(¬ S w.heap.size)/\(¬ S (w.heap.size+1))/\(∀ k,S k->S0 k\/w.heap.size<=k)/\Ix c pre S W/\W.heap[w.heap.size+1]?=some (.loop (rec .done (some c)))/\W.heap[w.heap.size]?=some (.deferred (some [])))
   (λk=>S0 k\/k=w.heap.size+1) W1 aq ?_ ?_ ?_ ?_ ?_ ?_
  ·refine key.mono ?_;rintro e W2 ⟨⟨v,rfl⟩,(⟨S',⟨S,dg,hD,hL,aV,hi,hl,hk⟩,_⟩ | ⟨pre,S',iV,⟨S,c,dg,hD,hL,aV,hi,hl,hk⟩,_⟩)⟩
   ·refine⟨none,_,by have:=run_endLoop (P:=P) hl (by rw[eW];simp);rw[eW] at this;exact this,?_⟩;exact nv _ S _ (bQ _) hD aV (hI _ _ _ _ hi (jG _ (by omega) hL)) ((zQ (by omega)).trans hk)
   ·refine⟨some c,_,by have:=run_endLoop (P:=P) hl (by rw[eW];simp);rw[eW] at this;exact this,?_⟩;exact lY _ c pre S _ (bQ _) hD aV iV ((jg c) _ _ _ _ hi (jG _ (by omega) hL)) ((zQ (by omega)).trans hk)
  ·rintro pre Si A1 B1 ⟨S,dg,hD,hL,aV,hi,hl,hk⟩ az;have aa:w.heap.size+1<A1.heap.size:=(eQ.1 hl).1;exact⟨S,dg,hD,hL,aV,hI _ _ _ _ hi (az.weaken (by omega) (λk e=>(dg k).2 (.inl e))),(az.keep _ aa (.inl (by omega))).trans hl,(az.keep _ (by omega) (.inl (by omega))).trans hk⟩
  ·rintro pre Si A1 B1 ⟨S,c,dg,hD,hL,aV,hi,hl,hk⟩ az;have aa:w.heap.size+1<A1.heap.size:=(eQ.1 hl).1;exact⟨S,c,dg,hD,hL,aV,jg c _ _ _ _ hi (az.weaken (by omega) (λk e=>(dg k).2 (.inl e))),(az.keep _ aa (.inl (by omega))).trans hl,(az.keep _ (by omega) (.inl (by omega))).trans hk⟩
  ·
   rintro pre x Si W bg ⟨S,dg,hD,hL,aV,hi,hl,hk⟩ gh Ie;have aa:w.heap.size+1<W.heap.size:=(eQ.1 hl).1;have AF:∀ k,S k->k<W.heap.size:=λk e=>gh k ((dg k).2 (.inl e));have hy:=run_yield (P:=P) (args:=encs x) hl (by rw[eW];exact fz x);rw[eW] at hy;refine⟨fn,_,assign,body,hy,roundIn_of_wpIn ed (wpIn_mono (AK _ pre x S W bg hi AF) ?_)⟩;intro e a1 Wa hq
   cases e with
   | normal=>
    obtain⟨S1,eC,bh,BO,tt⟩:=hq;have tJ:¬ S1 w.heap.size:=λe=>by rcases bh _ e with e | e;exact hD e;omega
    have pM:¬ S1 (w.heap.size+1):=λe=>by rcases bh _ e with e | e;exact hL e;omega
    have tG:Wa.heap[w.heap.size+1]?=some (.loop (rec .ready none)):=(eC.keep _ aa hL).trans hl;have Br:Wa.heap[w.heap.size]?=some (.deferred (some [])):=(eC.keep _ (by omega) hD).trans hk;have tI:w.heap.size+1<Wa.heap.size:=(eQ.1 tG).1;refine⟨_,run_beginRound tG (by rw[eW]),?_⟩;have hb:=AS (w.heap.size+1) pre x S1 a1 (Wa.putObj (w.heap.size+1) (.loop { rec .ready none with state:=.busy })) bg (hA _ _ _ _ _ _ tt (jG _ (by omega) pM)) (λk e=>by simpa using BO k e);refine wpIn_mono hb ?_;have fin:∀ (jump:Option Code) (W3:World) (S3:Nat->Prop),RdStep S1 (Wa.putObj (w.heap.size+1) (.loop { rec .ready none with state:=.busy })) W3->(∀ k,S3 k->S1 k\/(Wa.putObj (w.heap.size+1) (.loop { rec .ready none with state:=.busy })).heap.size<=k)->(∀ k,S3 k->k<W3.heap.size)->
     (Instr.endRound (w.heap.size+1) jump).run P W3 = .ok (.bool jump.isNone) (W3.putObj (w.heap.size+1) (.loop (rec (if jump.isNone then .ready else .done) jump)))/\
     (W3.putObj (w.heap.size+1) (.loop (rec (if jump.isNone then .ready else .done) jump))).heap[w.heap.size+1]?=some (.loop (rec (if jump.isNone then .ready else .done) jump))/\
     (W3.putObj (w.heap.size+1) (.loop (rec (if jump.isNone then .ready else .done) jump))).heap[w.heap.size]?=some (.deferred (some []))/\
     ¬ S3 w.heap.size/\¬ S3 (w.heap.size+1)/\(∀ k,S3 k->S k\/W.heap.size<=k)/\
     RdStep Si W (W3.putObj (w.heap.size+1) (.loop (rec (if jump.isNone then .ready else .done) jump))):=λjump W3 S3 cZ dG da=>by
     have dJ:(Wa.putObj (w.heap.size+1) (.loop { rec .ready none with state:=.busy })).heap[w.heap.size+1]?=some (.loop { rec .ready none with state:=.busy }):=World.putObj_heap_same tI;have jj:(Wa.putObj (w.heap.size+1) (.loop { rec .ready none with state:=.busy })).heap[w.heap.size]?=some (.deferred (some [])):=(zQ (by omega)).trans Br;have nB:=(cZ.keep _ (by simpa using tI) pM).trans dJ;have mH:=(cZ.keep _ (by simp;omega) tJ).trans jj;have dX:=(eQ.1 nB).1
     have:=run_endRound (P:=P) jump nB
     rw[eW] at this |-;have lC:=cZ.size;have wb:=eC.size;simp only[World.putObj_size] at lC dG;refine⟨this,World.putObj_heap_same dX,(zQ (by omega)).trans mH,λe=>?_,λe=>?_,λk e=>?_,?_⟩
     ·rcases dG _ e with e | e;exact tJ e;omega
     ·rcases dG _ e with e | e;exact pM e;omega
     ·rcases dG _ e with e | e
      ·exact bh _ e
      ·right;omega
     ·refine⟨cZ.os.trans eC.os,cZ.tape.trans eC.tape,cZ.output.trans eC.output,by simp;omega,λk hk' tK=>?_,yQ eC.drawn cZ.drawn⟩;have mI:k≠w.heap.size+1:=λe=>tK ((dg k).2 (.inr e));have tL:¬ S k:=λe=>tK ((dg k).2 (.inl e));have Bz:¬ S1 k:=λe=>by rcases bh _ e with e | e;exact tL e;omega
      exact (zQ mI).trans ((cZ.keep k (by simp;omega) Bz).trans ((zQ mI).trans (eC.keep k hk' tL)))
    have fin2:∀ (S3:Nat->Prop) (W3:World) (o:Obj),(∀ k,S3 k->k<W3.heap.size)->W.heap.size<=W3.heap.size->(∀ k,S3 k->S k\/W.heap.size<=k)->
     (∀ k,(S3 k\/k=w.heap.size+1)->Si k\/W.heap.size<=k)/\(∀ k,(S3 k\/k=w.heap.size+1)->k<(W3.putObj (w.heap.size+1) o).heap.size):=λS3 W3 o h1 h2 h3=>
     ⟨λk e=>by rcases e with e | e;exact (h3 k e).imp (λe'=>(dg k).2 (.inl e')) id;exact .inl ((dg k).2 (.inr e)),λk e=>by
      simp only[World.putObj_size];rcases e with e | e
      ·exact h1 k e
      ·omega⟩
    have sub3:∀ (S3:Nat->Prop),(∀ k,S3 k->S k\/W.heap.size<=k)->∀ k,S3 k->S0 k\/w.heap.size<=k:=λS3 h k e=>by
     rcases h k e with e | e
     ·exact aV k e
     ·right;omega
    rintro e a3 W3 hp
    cases e with
    | normal=>
     obtain⟨S3,cZ,dG,da,kI⟩:=hp;obtain⟨hr,kL,j9,iU,gq,dZ,aF⟩:=fin none W3 S3 cZ dG da;have al:W.heap.size<=W3.heap.size:=by simpa using aF.size
     refine⟨_,_,hr,λk=>S3 k\/k=w.heap.size+1,aF,(fin2 S3 W3 (.deferred none) da al dZ).1,(fin2 S3 W3 _ da al dZ).2,.inl ⟨rfl,S3,λ_=>Iff.rfl,iU,gq,sub3 S3 dZ,hI _ _ _ _ kI (jG _ (by omega) gq),kL,j9⟩⟩
    | ret=>
     obtain⟨S3,cZ,dG,da,kI⟩:=hp;obtain⟨hr,kL,j9,iU,gq,dZ,aF⟩:=fin (some .ret) W3 S3 cZ dG da;have al:W.heap.size<=W3.heap.size:=by simpa using aF.size
     refine⟨_,_,hr,λk=>S3 k\/k=w.heap.size+1,aF,(fin2 S3 W3 (.deferred none) da al dZ).1,(fin2 S3 W3 _ da al dZ).2,.inr ⟨rfl,S3,.ret,λ_=>Iff.rfl,iU,gq,sub3 S3 dZ,jg _ _ _ _ _ kI (jG _ (by omega) gq),kL,j9⟩⟩
    | exit id=>
     obtain⟨S3,cZ,dG,da,kI⟩:=hp;obtain⟨hr,kL,j9,iU,gq,dZ,aF⟩:=fin (some (.exit id)) W3 S3 cZ dG da;have al:W.heap.size<=W3.heap.size:=by simpa using aF.size
     refine⟨_,_,hr,λk=>S3 k\/k=w.heap.size+1,aF,(fin2 S3 W3 (.deferred none) da al dZ).1,(fin2 S3 W3 _ da al dZ).2,.inr ⟨rfl,S3,.exit id,λ_=>Iff.rfl,iU,gq,sub3 S3 dZ,jg _ _ _ _ _ kI (jG _ (by omega) gq),kL,j9⟩⟩
    | goto t=>exact hp.elim
    | panic ch=>exact hp.elim
    | outgrown=>exact hp.elim
   | ret=>exact hq.elim
   | exit id=>exact hq.elim
   | goto t=>exact hq.elim
   | panic ch=>exact hq.elim
   | outgrown=>exact hq.elim
  ·rintro k (e | rfl)
   ·exact pz k e
   ·omega
  ·rintro k (e | rfl)
   ·have:=kF k e;omega
   ·omega
  ·exact⟨S0,λ_=>Iff.rfl,λe=>by have:=kF _ e;omega,λe=>by have:=kF _ e;omega,λ_ e=>.inl e,py,mC,At⟩
theorem g9{B:Nat}{S:Nat->Prop}{W W':World}{b:Nat}{t:TypeId}{v:Value}(h:Boxed W b t v)(hs:ItStep B S W W')(hb:S b):Boxed W' b t v:=(hs.keep b h.lt (.inr hb)).trans h
theorem th{n B:Nat}{S:Nat->Prop}{w W W':World}(h:Below n w W)(hs:ItStep B S W W')(hB:n<=B)(hn:n<=w.heap.size):Below n w W':=
 ⟨hs.os.trans h.os,hs.tape.trans h.tape,hs.output.trans h.output,yQ h.size hs.size,λk hk=>(hs.keep k (by have:=h.size;omega) (.inl (by omega))).trans (h.block k hk),yQ h.drawn hs.drawn⟩
theorem bT{n:Nat}{W W':World}{b:Nat}{t:TypeId}{v:Value}(h:Boxed W b t v)(hs:Below n W W')(hb:b<n):Boxed W' b t v:=(hs.block b hb).trans h
theorem cn{W:World}{b:Nat}{t:TypeId}{v:Value}(h:Boxed W b t v){p:Addr}(hp:b≠p.block)(u:Value):Boxed (W.setCell p u) b t v:=(wQ W p u b hp).trans h
theorem nl{P:Program}{fn:Func}{R:Ending->World->Prop}{tmps:Array Value}{w:World}{v:Value}(r9:(results fn tmps).run P w = .ok v w)(hR:R (.returned v) w) :
 bodyPostM Fence.wide 0 P fn R .ret { tmps:=tmps,defers:=[] } w:=⟨_,r9,hR⟩
theorem oC{P:Program}{fn:Func}{R:Ending->World->Prop}{tmps:Array Value}{W:World}{D:Nat}{v:Value}(hK:W.heap[D]?=some (.deferred (some [])))
 (r9:(results fn tmps).run P (W.putObj D (.deferred none)) = .ok v (W.putObj D (.deferred none))) (hR:R (.returned v) (W.putObj D (.deferred none))) :
 bodyPostM Fence.wide 0 P fn R .ret { tmps:=tmps,defers:=[{ target:=.collected D,args:=#[] }] } W:=
 ⟨by simp,.inl ⟨_,_,rfl,run_takeDeferred hK,_,r9,hR⟩⟩
theorem oz{n D:Nat}{w W:World}(h:Below n w W)(hD:n<=D)(o:Obj):Below n w (W.putObj D o):=
 ⟨h.os,h.tape,h.output,by simpa using h.size,λk hk=>(zQ (by omega)).trans (h.block k hk),h.drawn⟩
theorem pt{W:World}{b D:Nat}{t:TypeId}{v:Value}(h:Boxed W b t v)(hD:b≠D)(o:Obj):Boxed (W.putObj D o) b t v:=(zQ hD).trans h
theorem Cx{α:Type}{P:Program}{g:Operand}{ps:Array Tmp}{assign body:Code}{Q:Exit->Act->World->Prop}{a:Act}{w:World}
 {gf:FuncId} {first captured:Array Value} (hg:a.eval g = .func (.func gf) first captured) (eg:∀ args w,(callFunc gf args).run P w = .ok (.enter gf args) w)
 {mk:Value->Array Value} {encs:α->Array Value} {xs:List α} {n₀:Nat} {w0:World} (gK:∀ y,mk y=first ++ #[y]++captured)
 (hit:tc P gf mk encs xs n₀ w0) (bW:Below n₀ w0 w) (lU:n₀<=w.heap.size) (fz:∀ x,(encs x).size=ps.size)
 (I:List α->(Nat->Prop)->World->Prop) (Ix:Code->List α->(Nat->Prop)->World->Prop)
 (hI:fm w.heap.size I) (jg:∀ c,fm w.heap.size (Ix c))
 (S0:Nat->Prop) (pz:∀ k,S0 k->n₀<=k) (kF:∀ k,S0 k->k<w.heap.size) (h0:I [] S0 w)
 (BN:∀ (l0:Nat) (pre:List α) (x:α) (S:Nat->Prop) (W:World),pre ++ [x] <+: xs->I pre S W->(∀ k,S k->k<W.heap.size)->
   assign.wpIn (Fence.wide.inRound l0) 0 P (Exit.then (λa₁ W₁=>∃ S',RdStep S W W₁/\(∀ k,S' k->S k\/W.heap.size<=k)/\(∀ k,S' k->k<W₁.heap.size)/\
    ∀ l W₂,ItStep w.heap.size S' W₁ W₂->body.wpIn (Fence.wide.inRound l) 0 P (ni I Ix (pre ++ [x]) S' W₂) a₁ W₂) (λ_ _ _=>False))
    { tmps:=(ps.zip (encs x)).foldl (λt (p,v)=>t.setIfInBounds p v) a.tmps,defers:=[] } W)
 (nv:∀ (D:Nat) (S:Nat->Prop) (W:World),w.heap.size<=D->¬ S D->(∀ k,S k->S0 k\/w.heap.size<=k)->I xs S W->W.heap[D]?=some (.deferred (some []))->
   Q .normal { a with defers:={ target:=.collected D,args:=#[] } :: a.defers } W)
 (lY:∀ (D:Nat) (c:Code) (pre:List α) (S:Nat->Prop) (W:World),w.heap.size<=D->¬ S D->(∀ k,S k->S0 k\/w.heap.size<=k)->pre <+: xs->Ix c pre S W->W.heap[D]?=some (.deferred (some []))->
   c.wpIn Fence.wide 0 P Q { a with defers:={ target:=.collected D,args:=#[] } :: a.defers } W) :
 (Code.rangeFunc g ps assign body).wpIn Fence.wide 0 P Q a w:=
 Kt hg eg gK hit bW lU fz I Ix (λpre x S a₁ W=>∀ l W₂,ItStep w.heap.size S W W₂->body.wpIn (Fence.wide.inRound l) 0 P (ni I Ix (pre ++ [x]) S W₂) a₁ W₂)
  hI jg (λ_ _ _ _ _ _ h hs l W₂ h2=>h l W₂ (hs.trans h2)) S0 pz kF h0 BN (λl _ _ _ _ W _ h _=>h l W (ItStep.refl _ _ _)) nv lY
def bO(w:World):Type:={ x:World // Below w.heap.size w x }
def bO.w{w:World}(g:bO w):World:=g.1
theorem bO.below{w:World}(g:bO w):Below w.heap.size w g.w:=g.2
instance (w:World):Nonempty (bO w):=⟨⟨w,vQ _ _⟩⟩
theorem bO.cell{w:World}(g:bO w)(p:Addr)(h:p.block<w.heap.size):g.w.cell? p=w.cell? p:=g.2.cell h
theorem bO.frozen{w:World}(g:bO w)(p:Addr)(h:p.block<w.heap.size):g.w.frozen? p=w.frozen? p:=g.2.frozen h
theorem bO.size{w:World}(g:bO w):w.heap.size<=g.w.heap.size:=g.2.size
def y5(w:World)(w':World):Prop:=∃ g:bO w,w'=g.w
theorem y5.of{w w':World}(h:Below w.heap.size w w'):y5 w w':=⟨⟨w',h⟩,rfl⟩
theorem Calls.grow_of{P:Program}{f:FuncId}{args:Array Value}{w:World}{g:bO w}{v:Value}
 (h:Calls P f args g.w λe w'=>e = .returned v/\Below g.w.heap.size g.w w'):Calls P f args g.w λe w''=>e = .returned v/\∃ g':bO w,w''=g'.w:=
 h.mono λ_ w' ⟨he,hm⟩=>⟨he,⟨w',g.2.trans (hm.mono g.2.size)⟩,rfl⟩
section
variable {P:Program}
theorem eZ{id:Nat}{Q:Exit->Act->World->Prop}{a:Act}{w:World}{l:List Oper}(hm:P.follows .mixedOrders=true)(hB:Region.lexB .any l.toArray=true)
 (h:wpQuiet P l.toArray (λw'=>∃ g:bO w,w'=g.w) (λa'=>∀ w',(∃ g:bO w,w'=g.w)->Q .normal a' w') l a):(Code.region id l.toArray true).wp P Q a w:=
 wp_region_quiet (C:=λw'=>∃ g:bO w,w'=g.w) hm hB ⟨⟨_,(vQ w.heap.size w).drew⟩,rfl⟩ (by simpa using h)
end
theorem tf{W w1:World}(hb:Below W.heap.size W w1):(∀ b o,b<W.heap.size->w1.cell? ⟨b,o,none⟩=W.cell? ⟨b,o,none⟩)/\(∀ b o,b<W.heap.size->w1.frozen? ⟨b,o,none⟩=W.frozen? ⟨b,o,none⟩):=
 ⟨λb o h=>hb.cell (p:=⟨b,o,none⟩) h,λb o h=>hb.frozen (p:=⟨b,o,none⟩) h⟩
end D
namespace D
open Go.RowKit Go.Shelf
attribute [local go_sem] Oper.semAt_some
abbrev aC(l:List UInt8):Value:=.string ⟨l.toArray⟩
def J9:Value->Nat
 | .string s=>s.size
 | _=>0
def Fi(t:ByteArray)(J:List (List UInt8)->(Nat->Prop)->World->Prop)(S:Nat->Prop)(W:World)(v:Value)(wr:World):Prop:=
 ∃ (pre:List (List UInt8)) (r:ByteArray) (S1:Nat->Prop),v = .string r/\r.size<=140737488355328/\Np.back t.data.toList=pre++(Np.aZ r.data.toList).reverse/\
   J pre S1 wr/\(∀ k,S1 k->k<wr.heap.size)/\W.heap.size<=wr.heap.size/\(∀ k,S1 k->S k\/W.heap.size<=k)
theorem Dg(t:ByteArray)(ht:t.size<=140737488355328)(n₀:Nat)(w:World) :
 tc prog 215 (λy=>#[.string t,y]) (λx:List UInt8=>#[aC x]) (Np.back t.data.toList) n₀ w:=by
 intro l J Jx S W hW hJ DG hY hS hS' h0;refine callsIn_of_wp func215 rfl trivial ?_ rfl;simp only[ntmps215,List.size_toArray,List.length_cons,List.length_nil,Nat.reduceAdd,Nat.reduceSub,Array.replicate_succ,Array.replicate_zero,List.push_toArray,List.append_toArray,List.nil_append,List.cons_append];gi_wp2_with fail
 ·have he:(t.toList == [46])=true:=by assumption
  have ie:t.data.toList = [46]:=by rw[<-dQ];simpa using he
  have hb:Np.back t.data.toList = []:=by simp[Np.back,ie]
  refine bodyPost_ret (results_none rfl _ _ _) rfl ?_;exact⟨⟨_,rfl⟩,.inl ⟨S,by rw[hb];exact h0,λk e=>.inl e⟩⟩
 ·have he:(t.toList == [46])=false:=by assumption
  have hne:¬ t.data.toList = [46]:=by rw[<-dQ];simpa using he
  have hb:Np.back t.data.toList=(Np.aZ t.data.toList).reverse:=by simp[Np.back,hne]
  have HB:=jq hb;clear hb;gi_loopw [4] (λv wr=>Fi t J S W v wr) (λv _=>J9 v)
  case atStart=>exact⟨[],t,S,rfl,ht,by simpa using HB.out,h0,hS',bQ _,λ_ e=>.inl e⟩
  case round=>
   obtain⟨pre,r,S1,rfl,hr,iV,hj,aa,al,aV⟩:=hrel;have HP:=jq iV;clear iV;gi_wp2_with fail;refine⟨trivial,rfl,?_⟩;refine (callsIn_wide.2 (JC _ hr _ (by decide) (by decide) _)).mono ?_;rintro e w' ⟨q,hq,rfl,rfl⟩;rcases hq with ⟨rfl,iA⟩ | ⟨a,b,ia,nC,rfl⟩
   ·have bh:Np.aZ r.data.toList = [r.data.toList]:=Np.yR iA;have hx:pre ++ [r.data.toList] <+: Np.back t.data.toList:=by rw[HP.out,bh];exact List.prefix_refl _
    obtain⟨fn,tmps,assign,body,hy,hR⟩:=hY pre r.data.toList S1 wr hx hj aa al;have pU:Sem.run prog (Instr.yield l #[.string r]) wr = .ok (.round l fn tmps assign body) wr:=hy;clear hy;have HX:=jq hx;clear hx;have HS:=jq bh;clear bh iA;gi_wp2_with fail;refine⟨rfl,hR.mono ?_⟩;rintro e W3 ⟨S3,aF,dz,dX,(⟨rfl,gR⟩ | ⟨rfl,gS⟩)⟩
    all_goals
     gi_wp2_with fail;refine bodyPost_ret (results_none rfl _ _ _) rfl ?_
    ·refine⟨⟨_,rfl⟩,.inl ⟨S3,?_,λk e=>?_⟩⟩
     ·rw[HP.out,HS.out];exact gR
     ·rcases dz k e with e | e
      ·exact aV k e
      ·right;omega
    ·refine⟨⟨_,rfl⟩,.inr ⟨_,S3,HX.out,gS,λk e=>?_⟩⟩;rcases dz k e with e | e
     ·exact aV k e
     ·right;omega
   ·have lZ:a.length+1+b.length=r.size:=by rw[<-bk,ia];simp;omega
    have bh:Np.aZ r.data.toList=Np.aZ a ++ [b]:=by rw[ia];exact (Np.Cl a b).trans (by rw[Np.yR nC])
    have hx:pre ++ [b] <+: Np.back t.data.toList:=by rw[HP.out,bh];simp
    have sr:(r.extract (a.length+1) r.size).data.toList=b:=by rw[Dq,ia];simp
    have qF:(r.extract 0 a.length).data.toList=a:=by rw[Ds,ia];simp
    have BP:(r.extract 0 a.length).size=a.length:=by rw[<-bk,qF]
    obtain⟨fn,tmps,assign,body,hy,hR⟩:=hY pre b S1 wr hx hj aa al;have pU:Sem.run prog (Instr.yield l #[.string (r.extract (a.length+1) r.size)]) wr = .ok (.round l fn tmps assign body) wr:=by
     have:aC b = .string (r.extract (a.length+1) r.size):=by show Value.string _=_;congr 1;exact mT (by rw[sr])
     simp only[this] at hy;exact hy
    clear hy;have HX:=jq hx;have HS:=jq bh;have HA:=jq qF;have uU:=jq BP;clear hx bh sr qF BP ia nC;have iO:a.length<=140737488355328:=by omega
    have NI:a.length+1<=r.size:=by omega
    have H2:=jq lZ;clear lZ;gi_wp2_with fail;refine⟨rfl,hR.mono ?_⟩;rintro e W3 ⟨S3,aF,dz,dX,(⟨rfl,gR⟩ | ⟨rfl,gS⟩)⟩
    ·have Yb:=aF.size;gi_wp2_with fail;go_roundw
     case rel=>
      refine⟨pre ++ [b],r.extract 0 a.length,S3,rfl,by rw[uU.out];exact iO,?_,gR,dX,by omega,λk e=>?_⟩
      ·rw[HP.out,HS.out,HA.out];simp
      ·rcases dz k e with e | e
       ·exact aV k e
       ·right;omega
     case measure=>show (r.extract 0 a.length).size<r.size;rw[uU.out];omega
    ·gi_wp2_with fail;refine bodyPost_ret (results_none rfl _ _ _) rfl ?_;refine⟨⟨_,rfl⟩,.inr ⟨_,S3,HX.out,gS,λk e=>?_⟩⟩;rcases dz k e with e | e
     ·exact aV k e
     ·right;omega
end D
section
open Go.RowKit
structure ItStep(B:Nat)(S:Nat->Prop)(W W':World):Prop where
 os:W'.os=W.os
 tape:W'.tape=W.tape
 output:W'.output=W.output
 size:W.heap.size<=W'.heap.size
 keep:∀ k,k<W.heap.size->(k<B\/S k)->W'.heap[k]?=W.heap[k]?
structure RdStep(S:Nat->Prop)(W W':World):Prop where
 os:W'.os=W.os
 tape:W'.tape=W.tape
 output:W'.output=W.output
 size:W.heap.size<=W'.heap.size
 keep:∀ k,k<W.heap.size->¬ S k->W'.heap[k]?=W.heap[k]?
theorem ItStep.refl(B:Nat)(S:Nat->Prop)(W:World):ItStep B S W W:=⟨rfl,rfl,rfl,bQ _,λ_ _ _=>rfl⟩
theorem RdStep.refl(S:Nat->Prop)(W:World):RdStep S W W:=⟨rfl,rfl,rfl,bQ _,λ_ _ _=>rfl⟩
theorem ItStep.trans{B:Nat}{S:Nat->Prop}{A W C:World}(h:ItStep B S A W)(k:ItStep B S W C):ItStep B S A C:=
 ⟨k.os.trans h.os,k.tape.trans h.tape,k.output.trans h.output,yQ h.size k.size,λi hi hs=>(k.keep i (lQ hi h.size) hs).trans (h.keep i hi hs)⟩
theorem RdStep.trans{S S':Nat->Prop}{A W C:World}(h:RdStep S A W)(k:RdStep S' W C)(hS:∀ i,S' i->S i\/A.heap.size<=i):RdStep S A C:=
 ⟨k.os.trans h.os,k.tape.trans h.tape,k.output.trans h.output,yQ h.size k.size,λi hi hs=>
  (k.keep i (lQ hi h.size) (λe=>by rcases hS i e with e | e;exact hs e;omega)).trans (h.keep i hi hs)⟩
theorem RdStep.mono{S S':Nat->Prop}{A W:World}(h:RdStep S A W)(hS:∀ i,S i->S' i):RdStep S' A W:=
 ⟨h.os,h.tape,h.output,h.size,λi hi hs=>h.keep i hi (λe=>hs (hS i e))⟩
theorem ItStep.of_below{B:Nat}{S:Nat->Prop}{A W:World}(h:Below A.heap.size A W):ItStep B S A W:=
 ⟨h.os,h.tape,h.output,h.size,λk hk _=>h.block k hk⟩
theorem RdStep.of_below{S:Nat->Prop}{A W:World}(h:Below A.heap.size A W):RdStep S A W:=
 ⟨h.os,h.tape,h.output,h.size,λk hk _=>h.block k hk⟩
theorem RdStep.below{S:Nat->Prop}{A W:World}{n:Nat}(h:RdStep S A W)(hn:n<=A.heap.size)(hS:∀ k,S k->n<=k):Below n A W:=
 ⟨h.os,h.tape,h.output,h.size,λk hk=>h.keep k (by omega) (λe=>by have:=hS k e;omega)⟩
theorem RdStep.setCell{S:Nat->Prop}{A W:World}(h:RdStep S A W){p:Addr}(hp:S p.block\/A.heap.size<=p.block)(u:Value):RdStep S A (W.setCell p u):=
 ⟨h.os,h.tape,h.output,by simpa [World.setCell] using h.size,λk hk hs=>(wQ _ _ _ _ (by rintro rfl;rcases hp with hp | hp;exact hs hp;omega)).trans (h.keep k hk hs)⟩
theorem RdStep.alloc{S:Nat->Prop}{A W:World}(h:RdStep S A W)(o:Obj):RdStep S A (W.alloc o):=
 ⟨h.os,h.tape,h.output,yQ h.size (by simp),λk hk hs=>(Below.heap_alloc _ _ _ (lQ hk h.size)).trans (h.keep k hk hs)⟩
theorem RdStep.drew{S:Nat->Prop}{A W:World}(h:RdStep S A W):RdStep S A W.drew:=⟨h.os,h.tape,h.output,h.size,h.keep⟩
theorem RdStep.grown{S:Nat->Prop}{A W C:World}{row:Option Nat}(h:RdStep S A W)(hg:W.grownBy C row)(hr:∀ k,row=some k->S k\/A.heap.size<=k):RdStep S A C:=
 ⟨hg.os.trans h.os,hg.tape.trans h.tape,hg.output.trans h.output,yQ h.size hg.size,λk hk hs=>
  (hg.block k (lQ hk h.size) (λe=>by rcases hr k e.symm with e' | e';exact hs e';omega)).trans (h.keep k hk hs)⟩
theorem RdStep.then_below{S:Nat->Prop}{A W C:World}(h:RdStep S A W)(k:Below W.heap.size W C):RdStep S A C:=
 ⟨k.os.trans h.os,k.tape.trans h.tape,k.output.trans h.output,yQ h.size k.size,λi hi hs=>(k.block i (lQ hi h.size)).trans (h.keep i hi hs)⟩
def fm{β:Type}(B:Nat)(J:β->(Nat->Prop)->World->Prop):Prop:=∀ s S W W',J s S W->ItStep B S W W'->J s S W'
def Da{α:Type}(J Jx:List α->(Nat->Prop)->World->Prop)(pre:List α)(x:α)(S:Nat->Prop)(W:World)(e:Ending)(W':World):Prop:=
 ∃ S':Nat->Prop,RdStep S W W'/\(∀ k,S' k->S k\/W.heap.size<=k)/\(∀ k,S' k->k<W'.heap.size)/\
   ((e = .returned (.bool true)/\J (pre ++ [x]) S' W')\/(e = .returned (.bool false)/\Jx (pre ++ [x]) S' W'))
def tc{α:Type}(P:Program)(gf:FuncId)(mk:Value->Array Value)(encs:α->Array Value)(xs:List α)(n₀:Nat)(w:World):Prop:=
 ∀ (l:Nat) (J Jx:List α->(Nat->Prop)->World->Prop) (S:Nat->Prop) (W:World),Below n₀ w W->
   fm W.heap.size J->fm W.heap.size Jx->
   (∀ pre x S1 W1,pre ++ [x] <+: xs->J pre S1 W1->(∀ k,S1 k->k<W1.heap.size)->W.heap.size<=W1.heap.size->
     YieldAt Fence.wide 0 P l (encs x) W1 (Da J Jx pre x S1 W1))->
   (∀ k,S k->n₀<=k)->(∀ k,S k->k<W.heap.size)->J [] S W->
   CallsIn Fence.wide 0 P gf (mk (.func (.yield l) #[] #[])) W λe W'=>(∃ v,e = .returned v)/\
    ((∃ S',J xs S' W'/\(∀ k,S' k->S k\/W.heap.size<=k))\/(∃ pre S',pre <+: xs/\Jx pre S' W'/\(∀ k,S' k->S k\/W.heap.size<=k)))
def ni{α:Type}(I:List α->(Nat->Prop)->World->Prop)(Ix:Code->List α->(Nat->Prop)->World->Prop)(xs:List α)(S:Nat->Prop)(W:World):Exit->Act->World->Prop
 | .normal,_,W'=>∃ S',RdStep S W W'/\(∀ k,S' k->S k\/W.heap.size<=k)/\(∀ k,S' k->k<W'.heap.size)/\I xs S' W'
 | .ret,_,W'=>∃ S',RdStep S W W'/\(∀ k,S' k->S k\/W.heap.size<=k)/\(∀ k,S' k->k<W'.heap.size)/\Ix .ret xs S' W'
 | .exit id,_,W'=>∃ S',RdStep S W W'/\(∀ k,S' k->S k\/W.heap.size<=k)/\(∀ k,S' k->k<W'.heap.size)/\Ix (.exit id) xs S' W'
 | _,_,_=>False
theorem jG{B:Nat}{S:Nat->Prop}{W:World}{l:Nat}(o:Obj)(hl:B<=l)(hS:¬ S l):ItStep B S W (W.putObj l o):=
 ⟨rfl,rfl,rfl,by simp,λk _ hk=>zQ (by rintro rfl;rcases hk with hk | hk;omega;exact hS hk)⟩
theorem sD{B:Nat}{S:Nat->Prop}{W:World}(o:Obj):ItStep B S W (W.alloc o):=
 ⟨rfl,rfl,rfl,by simp,λk hk _=>Below.heap_alloc _ _ _ hk⟩
theorem ItStep.weaken{B B':Nat}{S S':Nat->Prop}{W W':World}(h:ItStep B S W W')(hB:B'<=B)(hS:∀ k,S' k->S k):ItStep B' S' W W':=
 ⟨h.os,h.tape,h.output,h.size,λk hk hs=>h.keep k hk (hs.imp (λe=>by omega) (hS k))⟩
theorem Kt{α:Type}{P:Program}{g:Operand}{ps:Array Tmp}{assign body:Code}{Q:Exit->Act->World->Prop}{a:Act}{w:World}
 {gf:FuncId} {first captured:Array Value} (hg:a.eval g = .func (.func gf) first captured) (eg:∀ args w,(callFunc gf args).run P w = .ok (.enter gf args) w)
 {mk:Value->Array Value} {encs:α->Array Value} {xs:List α} {n₀:Nat} {w0:World} (gK:∀ y,mk y=first ++ #[y]++captured)
 (hit:tc P gf mk encs xs n₀ w0) (bW:Below n₀ w0 w) (lU:n₀<=w.heap.size) (fz:∀ x,(encs x).size=ps.size)
 (I:List α->(Nat->Prop)->World->Prop) (Ix:Code->List α->(Nat->Prop)->World->Prop) (A:List α->α->(Nat->Prop)->Act->World->Prop)
 (hI:fm w.heap.size I) (jg:∀ c,fm w.heap.size (Ix c)) (hA:∀ pre x S a' W W',A pre x S a' W->ItStep w.heap.size S W W'->A pre x S a' W')
 (S0:Nat->Prop) (pz:∀ k,S0 k->n₀<=k) (kF:∀ k,S0 k->k<w.heap.size) (h0:I [] S0 w)
 (AK:∀ (l:Nat) (pre:List α) (x:α) (S:Nat->Prop) (W:World),pre ++ [x] <+: xs->I pre S W->(∀ k,S k->k<W.heap.size)->
   assign.wpIn (Fence.wide.inRound l) 0 P (Exit.then (λa₁ W₁=>∃ S',RdStep S W W₁/\(∀ k,S' k->S k\/W.heap.size<=k)/\(∀ k,S' k->k<W₁.heap.size)/\A pre x S' a₁ W₁) (λ_ _ _=>False))
    { tmps:=(ps.zip (encs x)).foldl (λt (p,v)=>t.setIfInBounds p v) a.tmps,defers:=[] } W)
 (AS:∀ (l:Nat) (pre:List α) (x:α) (S:Nat->Prop) (a₁:Act) (W:World),pre ++ [x] <+: xs->A pre x S a₁ W->(∀ k,S k->k<W.heap.size)->
   body.wpIn (Fence.wide.inRound l) 0 P (ni I Ix (pre ++ [x]) S W) a₁ W)
 (nv:∀ (D:Nat) (S:Nat->Prop) (W:World),w.heap.size<=D->¬ S D->(∀ k,S k->S0 k\/w.heap.size<=k)->I xs S W->W.heap[D]?=some (.deferred (some []))->
   Q .normal { a with defers:={ target:=.collected D,args:=#[] } :: a.defers } W)
 (lY:∀ (D:Nat) (c:Code) (pre:List α) (S:Nat->Prop) (W:World),w.heap.size<=D->¬ S D->(∀ k,S k->S0 k\/w.heap.size<=k)->pre <+: xs->Ix c pre S W->W.heap[D]?=some (.deferred (some []))->
   c.wpIn Fence.wide 0 P Q { a with defers:={ target:=.collected D,args:=#[] } :: a.defers } W) :
 (Code.rangeFunc g ps assign body).wpIn Fence.wide 0 P Q a w:=by
 refine wpIn_rangeFunc ?_;intro fn ed;show ∃ (l:Nat) (mark:List Deferred) (w₁:World) (d:Deferred) (w₁':World) (f:FuncId) (args:Array Value) (w₂:World),(Instr.enterLoop fn a.tmps ps assign body none).run P w = .ok (l,mark) w₁/\_;obtain⟨rec,eW⟩:∃ rec:LoopState->Option Code->Loop,rec=λst pe=>{ state:=st,pending:=pe,fn,tmps:=a.tmps,params:=ps,assign,body,defers:=w.heap.size }:=⟨_,rfl⟩;obtain⟨W1,an⟩:=aJZ ((w.alloc (.deferred (some []))).alloc (.loop (rec .ready none)));have al:W1.heap.size=w.heap.size+2:=by rw[<-an];simp
 have mC:W1.heap[w.heap.size+1]?=some (.loop (rec .ready none)):=by
  rw[<-an];have:=World.alloc_heap_new (w.alloc (.deferred (some []))) (.loop (rec .ready none));rwa [World.size_alloc] at this
 have At:W1.heap[w.heap.size]?=some (.deferred (some [])):=by
  rw[<-an];exact (Below.heap_alloc _ _ _ (by simp)).trans (World.alloc_heap_new w _)
 have py:I [] S0 W1:=by rw[<-an];exact hI _ _ _ _ (hI _ _ _ _ h0 (sD _)) (sD _)
 have aq:Below n₀ w0 W1:=by
  rw[<-an];exact bW.trans ((((vQ _ w).alloc (bQ _) _).alloc (by simp) _).mono lU)
 refine⟨w.heap.size+1,[{ target:=.collected w.heap.size,args:=#[] }],W1,{ target:=.fn (.func gf) captured,args:=first ++ #[.func (.yield (w.heap.size+1)) #[] #[]] },W1,gf,
  first ++ #[.func (.yield (w.heap.size+1)) #[] #[]]++captured,W1,?_,?_,?_,?_,λh=>by simp[Fence.wide] at h,?_⟩
 ·rw[<-an,eW];exact run_enterLoop_outer _ _ _ _ _
 ·simp only[resolve,hg];simp[go_sem]
 ·intro f' _;trivial
 ·simp[invoke,go_sem,eg]
 ·rw[<-gK];have key:=hit (w.heap.size+1)
   (λpre Si W=>∃ S:Nat->Prop,(∀ k,Si k↔S k\/k=w.heap.size+1)/\(¬ S w.heap.size)/\(¬ S (w.heap.size+1))/\(∀ k,S k->S0 k\/w.heap.size<=k)/\I pre S W/\W.heap[w.heap.size+1]?=some (.loop (rec .ready none))/\W.heap[w.heap.size]?=some (.deferred (some [])))
   (λpre Si W=>∃ (S:Nat->Prop) (c:Code),(∀ k,Si k↔S k\/k=w.heap.size+1)/\(¬ S w.heap.size)/\(¬ S (w.heap.size+1))/\(∀ k,S k->S0 k\/w.heap.size<=k)/\Ix c pre S W/\W.heap[w.heap.size+1]?=some (.loop (rec .done (some c)))/\W.heap[w.heap.size]?=some (.deferred (some [])))
   (λk=>S0 k\/k=w.heap.size+1) W1 aq ?_ ?_ ?_ ?_ ?_ ?_
  ·refine key.mono ?_;rintro e W2 ⟨⟨v,rfl⟩,(⟨S',⟨S,dg,hD,hL,aV,hi,hl,hk⟩,_⟩ | ⟨pre,S',iV,⟨S,c,dg,hD,hL,aV,hi,hl,hk⟩,_⟩)⟩
   ·refine⟨none,_,by have:=run_endLoop (P:=P) hl (by rw[eW];simp);rw[eW] at this;exact this,?_⟩;exact nv _ S _ (bQ _) hD aV (hI _ _ _ _ hi (jG _ (by omega) hL)) ((zQ (by omega)).trans hk)
   ·refine⟨some c,_,by have:=run_endLoop (P:=P) hl (by rw[eW];simp);rw[eW] at this;exact this,?_⟩;exact lY _ c pre S _ (bQ _) hD aV iV ((jg c) _ _ _ _ hi (jG _ (by omega) hL)) ((zQ (by omega)).trans hk)
  ·rintro pre Si A1 B1 ⟨S,dg,hD,hL,aV,hi,hl,hk⟩ az;have aa:w.heap.size+1<A1.heap.size:=(eQ.1 hl).1;exact⟨S,dg,hD,hL,aV,hI _ _ _ _ hi (az.weaken (by omega) (λk e=>(dg k).2 (.inl e))),(az.keep _ aa (.inl (by omega))).trans hl,(az.keep _ (by omega) (.inl (by omega))).trans hk⟩
  ·rintro pre Si A1 B1 ⟨S,c,dg,hD,hL,aV,hi,hl,hk⟩ az;have aa:w.heap.size+1<A1.heap.size:=(eQ.1 hl).1;exact⟨S,c,dg,hD,hL,aV,jg c _ _ _ _ hi (az.weaken (by omega) (λk e=>(dg k).2 (.inl e))),(az.keep _ aa (.inl (by omega))).trans hl,(az.keep _ (by omega) (.inl (by omega))).trans hk⟩
  ·
   rintro pre x Si W bg ⟨S,dg,hD,hL,aV,hi,hl,hk⟩ gh Ie;have aa:w.heap.size+1<W.heap.size:=(eQ.1 hl).1;have AF:∀ k,S k->k<W.heap.size:=λk e=>gh k ((dg k).2 (.inl e));have hy:=run_yield (P:=P) (args:=encs x) hl (by rw[eW];exact fz x);rw[eW] at hy;refine⟨fn,_,assign,body,hy,roundIn_of_wpIn ed (wpIn_mono (AK _ pre x S W bg hi AF) ?_)⟩;intro e a1 Wa hq
   cases e with
   | normal=>
    obtain⟨S1,eC,bh,BO,tt⟩:=hq;have tJ:¬ S1 w.heap.size:=λe=>by rcases bh _ e with e | e;exact hD e;omega
    have pM:¬ S1 (w.heap.size+1):=λe=>by rcases bh _ e with e | e;exact hL e;omega
    have tG:Wa.heap[w.heap.size+1]?=some (.loop (rec .ready none)):=(eC.keep _ aa hL).trans hl;have Br:Wa.heap[w.heap.size]?=some (.deferred (some [])):=(eC.keep _ (by omega) hD).trans hk;have tI:w.heap.size+1<Wa.heap.size:=(eQ.1 tG).1;refine⟨_,run_beginRound tG (by rw[eW]),?_⟩;have hb:=AS (w.heap.size+1) pre x S1 a1 (Wa.putObj (w.heap.size+1) (.loop { rec .ready none with state:=.busy })) bg (hA _ _ _ _ _ _ tt (jG _ (by omega) pM)) (λk e=>by simpa using BO k e);refine wpIn_mono hb ?_;have fin:∀ (jump:Option Code) (W3:World) (S3:Nat->Prop),RdStep S1 (Wa.putObj (w.heap.size+1) (.loop { rec .ready none with state:=.busy })) W3->(∀ k,S3 k->S1 k\/(Wa.putObj (w.heap.size+1) (.loop { rec .ready none with state:=.busy })).heap.size<=k)->(∀ k,S3 k->k<W3.heap.size)->
     (Instr.endRound (w.heap.size+1) jump).run P W3 = .ok (.bool jump.isNone) (W3.putObj (w.heap.size+1) (.loop (rec (if jump.isNone then .ready else .done) jump)))/\
     (W3.putObj (w.heap.size+1) (.loop (rec (if jump.isNone then .ready else .done) jump))).heap[w.heap.size+1]?=some (.loop (rec (if jump.isNone then .ready else .done) jump))/\
     (W3.putObj (w.heap.size+1) (.loop (rec (if jump.isNone then .ready else .done) jump))).heap[w.heap.size]?=some (.deferred (some []))/\
     ¬ S3 w.heap.size/\¬ S3 (w.heap.size+1)/\(∀ k,S3 k->S k\/W.heap.size<=k)/\
     RdStep Si W (W3.putObj (w.heap.size+1) (.loop (rec (if jump.isNone then .ready else .done) jump))):=λjump W3 S3 cZ dG da=>by
     have dJ:(Wa.putObj (w.heap.size+1) (.loop { rec .ready none with state:=.busy })).heap[w.heap.size+1]?=some (.loop { rec .ready none with state:=.busy }):=World.putObj_heap_same tI;have jj:(Wa.putObj (w.heap.size+1) (.loop { rec .ready none with state:=.busy })).heap[w.heap.size]?=some (.deferred (some [])):=(zQ (by omega)).trans Br;have nB:=(cZ.keep _ (by simpa using tI) pM).trans dJ;have mH:=(cZ.keep _ (by simp;omega) tJ).trans jj;have dX:=(eQ.1 nB).1
     have:=run_endRound (P:=P) jump nB
     rw[eW] at this |-;have lC:=cZ.size;have wb:=eC.size;simp only[World.putObj_size] at lC dG;refine⟨this,World.putObj_heap_same dX,(zQ (by omega)).trans mH,λe=>?_,λe=>?_,λk e=>?_,?_⟩
     ·rcases dG _ e with e | e;exact tJ e;omega
     ·rcases dG _ e with e | e;exact pM e;omega
     ·rcases dG _ e with e | e
      ·exact bh _ e
      ·right;omega
     ·refine⟨cZ.os.trans eC.os,cZ.tape.trans eC.tape,cZ.output.trans eC.output,by simp;omega,λk hk' tK=>?_⟩;have mI:k≠w.heap.size+1:=λe=>tK ((dg k).2 (.inr e));have tL:¬ S k:=λe=>tK ((dg k).2 (.inl e));have Bz:¬ S1 k:=λe=>by rcases bh _ e with e | e;exact tL e;omega
      exact (zQ mI).trans ((cZ.keep k (by simp;omega) Bz).trans ((zQ mI).trans (eC.keep k hk' tL)))
    have fin2:∀ (S3:Nat->Prop) (W3:World) (o:Obj),(∀ k,S3 k->k<W3.heap.size)->W.heap.size<=W3.heap.size->(∀ k,S3 k->S k\/W.heap.size<=k)->
     (∀ k,(S3 k\/k=w.heap.size+1)->Si k\/W.heap.size<=k)/\(∀ k,(S3 k\/k=w.heap.size+1)->k<(W3.putObj (w.heap.size+1) o).heap.size):=λS3 W3 o h1 h2 h3=>
     ⟨λk e=>by rcases e with e | e;exact (h3 k e).imp (λe'=>(dg k).2 (.inl e')) id;exact .inl ((dg k).2 (.inr e)),λk e=>by
      simp only[World.putObj_size];rcases e with e | e
      ·exact h1 k e
      ·omega⟩
    have sub3:∀ (S3:Nat->Prop),(∀ k,S3 k->S k\/W.heap.size<=k)->∀ k,S3 k->S0 k\/w.heap.size<=k:=λS3 h k e=>by
     rcases h k e with e | e
     ·exact aV k e
     ·right;omega
    rintro e a3 W3 hp
    cases e with
    | normal=>
     obtain⟨S3,cZ,dG,da,kI⟩:=hp;obtain⟨hr,kL,j9,iU,gq,dZ,aF⟩:=fin none W3 S3 cZ dG da;have al:W.heap.size<=W3.heap.size:=by simpa using aF.size
     refine⟨_,_,hr,λk=>S3 k\/k=w.heap.size+1,aF,(fin2 S3 W3 (.deferred none) da al dZ).1,(fin2 S3 W3 _ da al dZ).2,.inl ⟨rfl,S3,λ_=>Iff.rfl,iU,gq,sub3 S3 dZ,hI _ _ _ _ kI (jG _ (by omega) gq),kL,j9⟩⟩
    | ret=>
     obtain⟨S3,cZ,dG,da,kI⟩:=hp;obtain⟨hr,kL,j9,iU,gq,dZ,aF⟩:=fin (some .ret) W3 S3 cZ dG da;have al:W.heap.size<=W3.heap.size:=by simpa using aF.size
     refine⟨_,_,hr,λk=>S3 k\/k=w.heap.size+1,aF,(fin2 S3 W3 (.deferred none) da al dZ).1,(fin2 S3 W3 _ da al dZ).2,.inr ⟨rfl,S3,.ret,λ_=>Iff.rfl,iU,gq,sub3 S3 dZ,jg _ _ _ _ _ kI (jG _ (by omega) gq),kL,j9⟩⟩
    | exit id=>
     obtain⟨S3,cZ,dG,da,kI⟩:=hp;obtain⟨hr,kL,j9,iU,gq,dZ,aF⟩:=fin (some (.exit id)) W3 S3 cZ dG da;have al:W.heap.size<=W3.heap.size:=by simpa using aF.size
     refine⟨_,_,hr,λk=>S3 k\/k=w.heap.size+1,aF,(fin2 S3 W3 (.deferred none) da al dZ).1,(fin2 S3 W3 _ da al dZ).2,.inr ⟨rfl,S3,.exit id,λ_=>Iff.rfl,iU,gq,sub3 S3 dZ,jg _ _ _ _ _ kI (jG _ (by omega) gq),kL,j9⟩⟩
    | goto t=>exact hp.elim
    | panic ch=>exact hp.elim
    | outgrown=>exact hp.elim
   | ret=>exact hq.elim
   | exit id=>exact hq.elim
   | goto t=>exact hq.elim
   | panic ch=>exact hq.elim
   | outgrown=>exact hq.elim
  ·rintro k (e | rfl)
   ·exact pz k e
   ·omega
  ·rintro k (e | rfl)
   ·have:=kF k e;omega
   ·omega
  ·exact⟨S0,λ_=>Iff.rfl,λe=>by have:=kF _ e;omega,λe=>by have:=kF _ e;omega,λ_ e=>.inl e,py,mC,At⟩
theorem g9{B:Nat}{S:Nat->Prop}{W W':World}{b:Nat}{t:TypeId}{v:Value}(h:Boxed W b t v)(hs:ItStep B S W W')(hb:S b):Boxed W' b t v:=(hs.keep b h.lt (.inr hb)).trans h
theorem th{n B:Nat}{S:Nat->Prop}{w W W':World}(h:Below n w W)(hs:ItStep B S W W')(hB:n<=B)(hn:n<=w.heap.size):Below n w W':=
 ⟨hs.os.trans h.os,hs.tape.trans h.tape,hs.output.trans h.output,yQ h.size hs.size,λk hk=>(hs.keep k (by have:=h.size;omega) (.inl (by omega))).trans (h.block k hk)⟩
theorem bT{n:Nat}{W W':World}{b:Nat}{t:TypeId}{v:Value}(h:Boxed W b t v)(hs:Below n W W')(hb:b<n):Boxed W' b t v:=(hs.block b hb).trans h
theorem cn{W:World}{b:Nat}{t:TypeId}{v:Value}(h:Boxed W b t v){p:Addr}(hp:b≠p.block)(u:Value):Boxed (W.setCell p u) b t v:=(wQ W p u b hp).trans h
theorem nl{P:Program}{fn:Func}{R:Ending->World->Prop}{tmps:Array Value}{w:World}{v:Value}(r9:(results fn tmps).run P w = .ok v w)(hR:R (.returned v) w) :
 bodyPostM Fence.wide 0 P fn R .ret { tmps:=tmps,defers:=[] } w:=⟨_,r9,hR⟩
theorem oC{P:Program}{fn:Func}{R:Ending->World->Prop}{tmps:Array Value}{W:World}{D:Nat}{v:Value}(hK:W.heap[D]?=some (.deferred (some [])))
 (r9:(results fn tmps).run P (W.putObj D (.deferred none)) = .ok v (W.putObj D (.deferred none))) (hR:R (.returned v) (W.putObj D (.deferred none))) :
 bodyPostM Fence.wide 0 P fn R .ret { tmps:=tmps,defers:=[{ target:=.collected D,args:=#[] }] } W:=
 ⟨by simp,.inl ⟨_,_,rfl,run_takeDeferred hK,_,r9,hR⟩⟩
theorem oz{n D:Nat}{w W:World}(h:Below n w W)(hD:n<=D)(o:Obj):Below n w (W.putObj D o):=
 ⟨h.os,h.tape,h.output,by simpa using h.size,λk hk=>(zQ (by omega)).trans (h.block k hk)⟩
theorem pt{W:World}{b D:Nat}{t:TypeId}{v:Value}(h:Boxed W b t v)(hD:b≠D)(o:Obj):Boxed (W.putObj D o) b t v:=(zQ hD).trans h
theorem Cx{α:Type}{P:Program}{g:Operand}{ps:Array Tmp}{assign body:Code}{Q:Exit->Act->World->Prop}{a:Act}{w:World}
 {gf:FuncId} {first captured:Array Value} (hg:a.eval g = .func (.func gf) first captured) (eg:∀ args w,(callFunc gf args).run P w = .ok (.enter gf args) w)
 {mk:Value->Array Value} {encs:α->Array Value} {xs:List α} {n₀:Nat} {w0:World} (gK:∀ y,mk y=first ++ #[y]++captured)
 (hit:tc P gf mk encs xs n₀ w0) (bW:Below n₀ w0 w) (lU:n₀<=w.heap.size) (fz:∀ x,(encs x).size=ps.size)
 (I:List α->(Nat->Prop)->World->Prop) (Ix:Code->List α->(Nat->Prop)->World->Prop)
 (hI:fm w.heap.size I) (jg:∀ c,fm w.heap.size (Ix c))
 (S0:Nat->Prop) (pz:∀ k,S0 k->n₀<=k) (kF:∀ k,S0 k->k<w.heap.size) (h0:I [] S0 w)
 (BN:∀ (l0:Nat) (pre:List α) (x:α) (S:Nat->Prop) (W:World),pre ++ [x] <+: xs->I pre S W->(∀ k,S k->k<W.heap.size)->
   assign.wpIn (Fence.wide.inRound l0) 0 P (Exit.then (λa₁ W₁=>∃ S',RdStep S W W₁/\(∀ k,S' k->S k\/W.heap.size<=k)/\(∀ k,S' k->k<W₁.heap.size)/\
    ∀ l W₂,ItStep w.heap.size S' W₁ W₂->body.wpIn (Fence.wide.inRound l) 0 P (ni I Ix (pre ++ [x]) S' W₂) a₁ W₂) (λ_ _ _=>False))
    { tmps:=(ps.zip (encs x)).foldl (λt (p,v)=>t.setIfInBounds p v) a.tmps,defers:=[] } W)
 (nv:∀ (D:Nat) (S:Nat->Prop) (W:World),w.heap.size<=D->¬ S D->(∀ k,S k->S0 k\/w.heap.size<=k)->I xs S W->W.heap[D]?=some (.deferred (some []))->
   Q .normal { a with defers:={ target:=.collected D,args:=#[] } :: a.defers } W)
 (lY:∀ (D:Nat) (c:Code) (pre:List α) (S:Nat->Prop) (W:World),w.heap.size<=D->¬ S D->(∀ k,S k->S0 k\/w.heap.size<=k)->pre <+: xs->Ix c pre S W->W.heap[D]?=some (.deferred (some []))->
   c.wpIn Fence.wide 0 P Q { a with defers:={ target:=.collected D,args:=#[] } :: a.defers } W) :
 (Code.rangeFunc g ps assign body).wpIn Fence.wide 0 P Q a w:=
 Kt hg eg gK hit bW lU fz I Ix (λpre x S a₁ W=>∀ l W₂,ItStep w.heap.size S W W₂->body.wpIn (Fence.wide.inRound l) 0 P (ni I Ix (pre ++ [x]) S W₂) a₁ W₂)
  hI jg (λ_ _ _ _ _ _ h hs l W₂ h2=>h l W₂ (hs.trans h2)) S0 pz kF h0 BN (λl _ _ _ _ W _ h _=>h l W (ItStep.refl _ _ _)) nv lY
theorem aMY{n:Nat}{W W':World}{b:Nat}{t:TypeId}{v:Value}(h:Boxed W b t v)(hs:Below n W W')(hb:b<n:=by omega):Boxed W' b t v:=bT h hs hb
end
section
open Go.RowKit Go.Shelf
attribute [local go_sem] Oper.semAt_some
abbrev aC(l:List UInt8):Value:=.string ⟨l.toArray⟩
def J9:Value->Nat
 | .string s=>s.size
 | _=>0
def Fi(t:ByteArray)(J:List (List UInt8)->(Nat->Prop)->World->Prop)(S:Nat->Prop)(W:World)(v:Value)(wr:World):Prop:=
 ∃ (pre:List (List UInt8)) (r:ByteArray) (S1:Nat->Prop),v = .string r/\r.size<=140737488355328/\Np.back t.data.toList=pre++(Np.aZ r.data.toList).reverse/\
   J pre S1 wr/\(∀ k,S1 k->k<wr.heap.size)/\W.heap.size<=wr.heap.size/\(∀ k,S1 k->S k\/W.heap.size<=k)
theorem Dg(t:ByteArray)(ht:t.size<=140737488355328)(n₀:Nat)(w:World) :
 tc prog 215 (λy=>#[.string t,y]) (λx:List UInt8=>#[aC x]) (Np.back t.data.toList) n₀ w:=by
 intro l J Jx S W hW hJ DG hY hS hS' h0;refine callsIn_of_wp func215 rfl trivial ?_ rfl;simp only[ntmps215,List.size_toArray,List.length_cons,List.length_nil,Nat.reduceAdd,Nat.reduceSub,Array.replicate_succ,Array.replicate_zero,List.push_toArray,List.append_toArray,List.nil_append,List.cons_append];gi_wp2_with fail
 ·have he:(t.toList == [46])=true:=by assumption
  have ie:t.data.toList = [46]:=by rw[<-dQ];simpa using he
  have hb:Np.back t.data.toList = []:=by simp[Np.back,ie]
  refine bodyPost_ret (results_none rfl _ _ _) rfl ?_;exact⟨⟨_,rfl⟩,.inl ⟨S,by rw[hb];exact h0,λk e=>.inl e⟩⟩
 ·have he:(t.toList == [46])=false:=by assumption
  have hne:¬ t.data.toList = [46]:=by rw[<-dQ];simpa using he
  have hb:Np.back t.data.toList=(Np.aZ t.data.toList).reverse:=by simp[Np.back,hne]
  have HB:=jq hb;clear hb;gi_loopw [4] (λv wr=>Fi t J S W v wr) (λv _=>J9 v)
  case atStart=>exact⟨[],t,S,rfl,ht,by simpa using HB.out,h0,hS',bQ _,λ_ e=>.inl e⟩
  case round=>
   obtain⟨pre,r,S1,rfl,hr,iV,hj,aa,al,aV⟩:=hrel;have HP:=jq iV;clear iV;gi_wp2_with fail;refine⟨trivial,rfl,?_⟩;refine (callsIn_wide.2 (JC _ hr _ (by decide) (by decide) _)).mono ?_;rintro e w' ⟨q,hq,rfl,rfl⟩;rcases hq with ⟨rfl,iA⟩ | ⟨a,b,ia,nC,rfl⟩
   ·have bh:Np.aZ r.data.toList = [r.data.toList]:=Np.yR iA;have hx:pre ++ [r.data.toList] <+: Np.back t.data.toList:=by rw[HP.out,bh];exact List.prefix_refl _
    obtain⟨fn,tmps,assign,body,hy,hR⟩:=hY pre r.data.toList S1 wr hx hj aa al;have pU:Sem.run prog (Instr.yield l #[.string r]) wr = .ok (.round l fn tmps assign body) wr:=hy;clear hy;have HX:=jq hx;clear hx;have HS:=jq bh;clear bh iA;gi_wp2_with fail;refine⟨rfl,hR.mono ?_⟩;rintro e W3 ⟨S3,aF,dz,dX,(⟨rfl,gR⟩ | ⟨rfl,gS⟩)⟩
    all_goals
     gi_wp2_with fail;refine bodyPost_ret (results_none rfl _ _ _) rfl ?_
    ·refine⟨⟨_,rfl⟩,.inl ⟨S3,?_,λk e=>?_⟩⟩
     ·rw[HP.out,HS.out];exact gR
     ·rcases dz k e with e | e
      ·exact aV k e
      ·right;omega
    ·refine⟨⟨_,rfl⟩,.inr ⟨_,S3,HX.out,gS,λk e=>?_⟩⟩;rcases dz k e with e | e
     ·exact aV k e
     ·right;omega
   ·have lZ:a.length+1+b.length=r.size:=by rw[<-bk,ia];simp;omega
    have bh:Np.aZ r.data.toList=Np.aZ a ++ [b]:=by rw[ia];exact (Np.Cl a b).trans (by rw[Np.yR nC])
    have hx:pre ++ [b] <+: Np.back t.data.toList:=by rw[HP.out,bh];simp
    have sr:(r.extract (a.length+1) r.size).data.toList=b:=by rw[Dq,ia];simp
    have qF:(r.extract 0 a.length).data.toList=a:=by rw[Ds,ia];simp
    have BP:(r.extract 0 a.length).size=a.length:=by rw[<-bk,qF]
    obtain⟨fn,tmps,assign,body,hy,hR⟩:=hY pre b S1 wr hx hj aa al;have pU:Sem.run prog (Instr.yield l #[.string (r.extract (a.length+1) r.size)]) wr = .ok (.round l fn tmps assign body) wr:=by
     have:aC b = .string (r.extract (a.length+1) r.size):=by show Value.string _=_;congr 1;exact mT (by rw[sr])
     simp only[this] at hy;exact hy
    clear hy;have HX:=jq hx;have HS:=jq bh;have HA:=jq qF;have uU:=jq BP;clear hx bh sr qF BP ia nC;have iO:a.length<=140737488355328:=by omega
    have NI:a.length+1<=r.size:=by omega
    have H2:=jq lZ;clear lZ;gi_wp2_with fail;refine⟨rfl,hR.mono ?_⟩;rintro e W3 ⟨S3,aF,dz,dX,(⟨rfl,gR⟩ | ⟨rfl,gS⟩)⟩
    ·have Yb:=aF.size;gi_wp2_with fail;go_roundw
     case rel=>
      refine⟨pre ++ [b],r.extract 0 a.length,S3,rfl,by rw[uU.out];exact iO,?_,gR,dX,by omega,λk e=>?_⟩
      ·rw[HP.out,HS.out,HA.out];simp
      ·rcases dz k e with e | e
       ·exact aV k e
       ·right;omega
     case measure=>show (r.extract 0 a.length).size<r.size;rw[uU.out];omega
    ·gi_wp2_with fail;refine bodyPost_ret (results_none rfl _ _ _) rfl ?_;refine⟨⟨_,rfl⟩,.inr ⟨_,S3,HX.out,gS,λk e=>?_⟩⟩;rcases dz k e with e | e
     ·exact aV k e
     ·right;omega
end
namespace D
open Go.RowKit Go.Shelf
attribute [local go_sem] Oper.semAt_some
def un(pre:List (List UInt8)):Bool:=pre.getLast? == some [42]
def Db(w:World)(xs:List (List UInt8))(pre:List (List UInt8))(S:Nat->Prop)(W:World):Prop:=
 (∀ k,S k↔k=w.heap.size\/k=w.heap.size+1\/k=w.heap.size+1+1)/\Boxed W w.heap.size 4 (.bool false)/\Boxed W (w.heap.size+1) 3 (.int .i64 pre.length)/\Boxed W (w.heap.size+1+1) 4 (.bool (un pre))/\
 (pre.length<=8/\∀ rest,xs=pre++rest->Np.fq xs 0 false=Np.fq rest pre.length (un pre))/\Below w.heap.size w W
def Dc(w:World)(xs:List (List UInt8))(c:Code)(_:List (List UInt8))(S:Nat->Prop)(W:World):Prop:=
 c = .ret/\(∀ k,S k↔k=w.heap.size\/k=w.heap.size+1\/k=w.heap.size+1+1)/\Boxed W w.heap.size 4 (.bool false)/\Np.fq xs 0 false=false/\Below w.heap.size w W
theorem Rs(w:World)(xs:List (List UInt8))(B:Nat)(hB:w.heap.size<=B):fm B (Db w xs):=by
 rintro s S W W' ⟨hS,h1,h2,h3,h4,h5⟩ az;exact⟨hS,g9 h1 az ((hS _).2 (.inl rfl)),g9 h2 az ((hS _).2 (.inr (.inl rfl))),g9 h3 az ((hS _).2 (.inr (.inr rfl))),h4,th h5 az hB (bQ _)⟩
theorem aAZ(w:World)(xs:List (List UInt8))(B:Nat)(hB:w.heap.size<=B)(c:Code):fm B (Dc w xs c):=by
 rintro s S W W' ⟨hc,hS,h1,h4,h5⟩ az;exact⟨hc,hS,g9 h1 az ((hS _).2 (.inl rfl)),h4,th h5 az hB (bQ _)⟩
theorem Kk{w:World}{xs pre:List (List UInt8)}{S:Nat->Prop}{W W3:World}{a:Act}(hS:∀ k,S k↔k=w.heap.size\/k=w.heap.size+1\/k=w.heap.size+1+1)
 (hr:RdStep S W W3) (aa:∀ k,S k->k<W.heap.size) (c0:Boxed W3 w.heap.size 4 (.bool false)) (hB:Below w.heap.size w W3) (hg:Np.fq xs 0 false=false) :
 ni (Db w xs) (Dc w xs) pre S W .ret a (W3.setCell ⟨w.heap.size,0,none⟩ (.bool false)):=
 ⟨S,hr.setCell (.inl ((hS _).2 (.inl rfl))) _,λ_ e=>.inl e,λk e=>by have:=aa k e;have:=hr.size;simp[World.setCell];omega,rfl,hS,c0.set _,hg,hB.setCell (bQ _) _⟩
theorem Rt{w:World}{xs pre rest:List (List UInt8)}{x:List UInt8}{S:Nat->Prop}{W W3:World}{a:Act}(hS:∀ k,S k↔k=w.heap.size\/k=w.heap.size+1\/k=w.heap.size+1+1)
 (hr:RdStep S W W3) (aa:∀ k,S k->k<W.heap.size) (c0:Boxed W3 w.heap.size 4 (.bool false)) (c1:Boxed W3 (w.heap.size+1) 3 (.int .i64 (pre.length+1))) (c2:Boxed W3 (w.heap.size+1+1) 4 (.bool (x == [42])))
 (hB:Below w.heap.size w W3) (se:pre ++ [x]++rest=xs) (hl:pre.length+1<=8) (hg:Np.fq xs 0 false=Np.fq rest (pre.length+1) (x == [42])) :
 ni (Db w xs) (Dc w xs) (pre ++ [x]) S W .normal a W3:=by
 have hw:un (pre ++ [x])=(x == [42]):=by simp[un]
 refine⟨S,hr,λ_ e=>.inl e,λk e=>by have:=aa k e;have:=hr.size;omega,hS,c0,by simpa using c1,by rw[hw];exact c2,⟨by simpa using hl,λr h=>?_⟩,hB⟩
 have:r=rest:=List.append_cancel_left (h.symm.trans se.symm)
 rw[hg,this,hw];simp
theorem valid_any(t:ByteArray)(ht:t.size<=140737488355328)(w:World) :
 Calls prog 175 #[.string t] w λe w'=>e = .returned (.bool (Np.aG t.data.toList))/\Below w.heap.size w w':=by
 refine (callsIn_wide (n:=0)).1 ?_;refine callsIn_of_wp_marks func175 rfl trivial ?_ rfl;simp only[ntmps175,List.size_toArray,List.length_cons,List.length_nil,Nat.reduceAdd,Nat.reduceSub,Array.replicate_succ,Array.replicate_zero,List.push_toArray,List.append_toArray,List.nil_append,List.cons_append];gi_wp2_with fail
 ·have he:(t.toList == [46])=true:=by assumption
  have ie:t.data.toList = [46]:=by rw[<-dQ];simpa using he
  exact nl (v:=.bool true) (by simp[results,results175,go_sem]) ⟨by rw[Np.aG,Qb ie],(vQ _ _).alloc (bQ _) _⟩
 ·have he:(t.toList == [46])=false:=by assumption
  have ie:¬ t.data.toList = [46]:=by rw[<-dQ];simpa using he
  have hl:60<(t.size:Int):=by assumption
  exact nl (v:=.bool false) (by simp[results,results175,go_sem]) ⟨by rw[Np.aG,Qc ie,Qb (by rw[bk];omega)],(vQ _ _).alloc (bQ _) _⟩
 ·have he:(t.toList == [46])=false:=by assumption
  have ie:¬ t.data.toList = [46]:=by rw[<-dQ];simpa using he
  have hl:(t.size:Int)<=60:=by assumption
  have hv:Np.aG t.data.toList=Np.fq (Np.back t.data.toList) 0 false:=by
   rw[Np.aG,Qc ie,Qc (by rw[bk];omega),Np.back,Qc ie]
  have HV:=jq hv;clear hv;have b0:=Boxed.new w 4 (.bool false);have b1:=Boxed.new (w.alloc (.cells #[.bool false] 4)) 3 (.int .i64 0);have b2:=Boxed.new ((w.alloc (.cells #[.bool false] 4)).alloc (.cells #[.int .i64 0] 3)) 4 (.bool false);simp only[World.size_alloc] at b1 b2;refine Cx (n₀:=w.heap.size) (w0:=w) (first:=#[.string t]) (captured:=#[]) (gf:=215) rfl (enters_of func215 (by kernel_rfl) rfl) (mk:=λy=>#[.string t,y]) (λ_=>rfl)
   (Dg t ht _ w) ((((vQ _ w).alloc (bQ _) _).alloc (by simp) _).alloc (by simp;omega) _) (by simp;omega) (λ_=>rfl) (Db w (Np.back t.data.toList)) (Dc w (Np.back t.data.toList))
   (Rs _ _ _ (by simp;omega)) (λc=>aAZ _ _ _ (by simp;omega) c)
   (λk=>k=w.heap.size\/k=w.heap.size+1\/k=w.heap.size+1+1) (by intro k h;omega) (by intro k h;simp;omega)
   ⟨λ_=>Iff.rfl,(b0.alloc _).alloc _,b1.alloc _,b2,⟨by simp,λrest h=>by rw[h];rfl⟩,(((vQ _ w).alloc (bQ _) _).alloc (by simp) _).alloc (by simp;omega) _⟩ ?round ?done ?stop
  case round=>
   rintro l0 pre x S W bg hI gh;gi_wp2;refine⟨S,RdStep.refl _ _,λk e=>.inl e,gh,?_⟩;intro l W₂ az;obtain⟨hS,c0,c1,c2,hg,hB⟩:=Rs w _ _ (by simp;omega) pre S W W₂ hI az;have c0c:=c0.cell;have c1c:=c1.cell;have c2c:=c2.cell;have c0f:=c0.frozen;have c1f:=c1.frozen;have c2f:=c2.frozen;have hlen:=hg.1;have hx:x∈Np.back t.data.toList:=bg.subset (by simp);have sw:x.length<=60:=by have:=Np.Df hx;rw[bk] at this;omega
   have nI:(⟨x.toArray⟩:ByteArray).size<=140737488355328:=by rw[<-bk];simp;omega
   obtain⟨rest,se⟩:=bg;have j6:Np.fq (Np.back t.data.toList) 0 false=Np.fq (x::rest) pre.length (un pre):=hg.2 _ (by rw[<-se];simp);have HR:=jq se;have HG:=jq j6;have AR:∀ (b:Nat) (u:Value),w.heap.size<=b->Below w.heap.size w (W₂.setCell ⟨b,0,none⟩ u):=λb u hb=>hB.setCell (p:=⟨b,0,none⟩) hb u;have fu:∀ k,S k->k<W₂.heap.size:=λk e=>lQ (gh k e) az.size;clear se j6 hg hx;gi_wp2_with (refine⟨trivial,rfl,?_⟩;gi_at_call 245;refine (CallsIn.inRound l (callsIn_wide.2 (Y0 _ nI _))).mono ?_;rintro e w' ⟨rfl,rfl⟩)
   ·exact Kk hS (RdStep.setCell (RdStep.refl S W₂) (p:=⟨w.heap.size+1,0,none⟩) (.inl ((hS _).2 (.inr (.inl rfl)))) _) fu (cn c0 (p:=⟨w.heap.size+1,0,none⟩) (by simp) _) (AR _ _ (by omega))
     (by rw[HG.out];have:un pre=true:=by assumption
         simp[Np.fq,this])
   ·exact Kk hS (RdStep.setCell (RdStep.refl S W₂) (p:=⟨w.heap.size+1,0,none⟩) (.inl ((hS _).2 (.inr (.inl rfl)))) _) fu (cn c0 (p:=⟨w.heap.size+1,0,none⟩) (by simp) _) (AR _ _ (by omega))
     (by rw[HG.out];have:8<pre.length+1:=by omega
         simp[Np.fq,this])
   ·have bM:x = [42]:=by assumption
    have e:(x == [42])=true:=by simp[bM]
    have eV:(pre.length:Int)+1<=8:=by assumption
    have h1:¬ un pre=true:=by assumption
    have h2:¬ 8<pre.length+1:=by omega
    refine⟨trivial,?_⟩;gi_wp2;exact Rt hS (RdStep.setCell (RdStep.setCell (RdStep.refl S W₂) (p:=⟨w.heap.size+1,0,none⟩) (.inl ((hS _).2 (.inr (.inl rfl)))) _) (p:=⟨w.heap.size+1+1,0,none⟩) (.inl ((hS _).2 (.inr (.inr rfl)))) _) fu
     (cn (cn c0 (p:=⟨w.heap.size+1,0,none⟩) (by simp) _) (p:=⟨w.heap.size+1+1,0,none⟩) (by simp <;> omega) _)
     (cn (c1.set _) (p:=⟨w.heap.size+1+1,0,none⟩) (by simp <;> omega) _) (by rw[e];exact (cn c2 (p:=⟨w.heap.size+1,0,none⟩) (by simp) _).set _)
     ((AR _ _ (by omega)).setCell (p:=⟨w.heap.size+1+1,0,none⟩) (by simp;omega) _) HR.out (by omega) (by rw[HG.out];simp[Np.fq,h1,h2,bM])
   ·have hl:(!x == [42])=true/\(!Np.cD x)=true:=by assumption
    have bM:¬ x = [42]:=by assumption
    exact Kk hS (RdStep.setCell (RdStep.setCell (RdStep.refl S W₂) (p:=⟨w.heap.size+1,0,none⟩) (.inl ((hS _).2 (.inr (.inl rfl)))) _) (p:=⟨w.heap.size+1+1,0,none⟩) (.inl ((hS _).2 (.inr (.inr rfl)))) _) fu
     (cn (cn c0 (p:=⟨w.heap.size+1,0,none⟩) (by simp) _) (p:=⟨w.heap.size+1+1,0,none⟩) (by simp <;> omega) _)
     ((AR _ _ (by omega)).setCell (p:=⟨w.heap.size+1+1,0,none⟩) (by simp;omega) _)
     (by rw[HG.out];have h2:Np.cD x=false:=by simpa using hl.2
         simp[Np.fq,bM,h2])
   ·have hl:(!x == [42])=false\/(!Np.cD x)=false:=by assumption
    have bM:¬ x = [42]:=by assumption
    have e:(x == [42])=false:=by simp[bM]
    have eV:(pre.length:Int)+1<=8:=by assumption
    have h1:¬ un pre=true:=by assumption
    have h2:¬ 8<pre.length+1:=by omega
    have h3:Np.cD x=true:=by simpa [e] using hl
    exact Rt hS (RdStep.setCell (RdStep.setCell (RdStep.refl S W₂) (p:=⟨w.heap.size+1,0,none⟩) (.inl ((hS _).2 (.inr (.inl rfl)))) _) (p:=⟨w.heap.size+1+1,0,none⟩) (.inl ((hS _).2 (.inr (.inr rfl)))) _) fu
     (cn (cn c0 (p:=⟨w.heap.size+1,0,none⟩) (by simp) _) (p:=⟨w.heap.size+1+1,0,none⟩) (by simp <;> omega) _)
     (cn (c1.set _) (p:=⟨w.heap.size+1+1,0,none⟩) (by simp <;> omega) _) ((cn c2 (p:=⟨w.heap.size+1,0,none⟩) (by simp) _).set _)
     ((AR _ _ (by omega)).setCell (p:=⟨w.heap.size+1+1,0,none⟩) (by simp;omega) _) HR.out (by omega) (by rw[HG.out];simp[Np.fq,h1,h2,bM,h3,e])
  case done=>
   rintro D S W hD ft aV ⟨hS,c0,c1,c2,hg,hB⟩ hK;have c0c:=c0.cell;have c0f:=c0.frozen;have rI:Np.fq (Np.back t.data.toList) 0 false=true:=by rw[hg.2 [] (by simp)];rfl
   have DE:w.heap.size≠D:=λe=>ft ((hS _).2 (.inl e.symm));clear hg;have HE:=jq rI;clear rI;gi_wp2;have hK':(W.setCell ⟨w.heap.size,0,none⟩ (.bool true)).heap[D]?=some (.deferred (some [])):=(wQ _ _ _ _ (by simpa using DE.symm)).trans hK;have c5:=(pt (c0.set (.bool true)) DE (.deferred none)).cell;exact oC hK' (v:=.bool true) (by simp[results,results175,go_sem,c5]) ⟨by rw[HV.out,HE.out],oz (hB.setCell (bQ _) _) (by simp at hD;omega) _⟩
  case stop=>
   rintro D c pre S W hD ft aV iV ⟨rfl,hS,c0,hg,hB⟩ hK;have DE:w.heap.size≠D:=λe=>ft ((hS _).2 (.inl e.symm));have HE:=jq hg;clear hg;gi_wp2;have c5:=(pt c0 DE (.deferred none)).cell;exact oC hK (v:=.bool false) (by simp[results,results175,go_sem,c5]) ⟨by rw[HV.out,HE.out],oz hB (by simp at hD;omega) _⟩
theorem nameValid_any(t:ByteArray)(ht:t.size<=140737488355328)(w:World) :
 Calls prog 105 #[.string t] w λe w'=>e = .returned (.bool (Np.aG t.data.toList))/\Below w.heap.size w w':=by
 go_enter func105,ntmps105;go_wp2_with (go_at_call 175;refine (valid_any _ ht _).mono ?_;rintro e w' ⟨rfl,hb⟩);go_ret;exact⟨rfl,hb⟩
end D
section
open Go.RowKit
theorem valid_any(t:ByteArray)(ht:t.size<=140737488355328)(w:World) :
 Calls prog 175 #[.string t] w (aOJ w.heap.size w (.bool (Np.aG t.data.toList))):=
 (D.valid_any t ht w).mono λ_ _ h=>⟨h.1,h.2.low⟩
theorem nameValid_any(t:ByteArray)(ht:t.size<=140737488355328)(w:World) :
 Calls prog 105 #[.string t] w (aOJ w.heap.size w (.bool (Np.aG t.data.toList))):=
 (D.nameValid_any t ht w).mono λ_ _ h=>⟨h.1,h.2.low⟩
theorem Ks(x lo hi:Int)(w:World) :
 Calls prog 228 #[.int .i64 x,.int .i64 lo,.int .i64 hi] w (aPQ w (.bool (decide (lo<=x)&&decide (x<=hi)))):=by
 by_cases h1:lo<=x
 all_goals
  go_enter func228,ntmps228;go_wp2;go_ret;exact⟨ae (by simp;omega),rfl⟩
theorem Pv(s:ByteArray)(h:1<=s.size):((s.extract 0 1).toList == [42])=Np.eF s.data.toList:=by
 rw[dQ,Ds];unfold Np.eF;have hl:1<=s.data.toList.length:=by rw[bk];exact h
 cases hd:s.data.toList with
 | nil=>rw[hd] at hl;simp at hl
 | cons a r=>rw[Bool.eq_iff_iff];simp
theorem Pw(s:ByteArray)(hs:s.size<=140737488355328)(w:World) :
 Calls prog 229 #[.string s] w (aPQ w (.bool (Np.eF s.data.toList))):=by
 have h1:1<=s.size->((s.extract 0 1).toList == [42])=Np.eF s.data.toList:=Pv s;have h2:s.size<1->Np.eF s.data.toList=false:=λh=>by
  have:s.data.toList = []:=rQ (by rw[bk];omega)
  rw[this];rfl
 have H1:=jq h1;have H2:=jq h2;clear h1 h2;go_enter func229,ntmps229;go_wp2
 ·go_ret;exact⟨ae (H1.out (by omega)),rfl⟩
 ·go_ret;exact⟨ae (H2.out (by omega)).symm,rfl⟩
theorem Vb(s t:ByteArray)(w:World) :
 Calls prog 303 #[.string s,.string t] w (aPQ w (.int .i64 (Np.cN s.data.toList t.data.toList))):=by
 go_enter func303,ntmps303;go_wp2
 ·have h:Op.bytesLess s.toList t.toList=true:=by assumption
  simp only[dQ] at h;go_ret;exact⟨jK (by simp[Np.cN,h]),rfl⟩
 ·have h:Op.bytesLess s.toList t.toList=false:=by assumption
  have h2:(!s.toList == t.toList)=true:=by assumption
  simp only[dQ] at h h2;have h3:¬ s.data.toList=t.data.toList:=by simpa using h2
  go_ret;exact⟨jK (by rw[Np.cN,Qc (by simp[h]),Qc h3]),rfl⟩
 ·have h:Op.bytesLess s.toList t.toList=false:=by assumption
  have h2:(!s.toList == t.toList)=false:=by assumption
  simp only[dQ] at h h2;have h3:s.data.toList=t.data.toList:=by simpa using h2
  go_ret;exact⟨jK (by rw[Np.cN,Qc (by simp[h]),Qb h3]),rfl⟩
theorem zZ(s t:Int)(w:World) :
 Calls prog 123 #[.int .i64 s,.int .i64 t] w (aPQ w (.int .i64 (Np.cP s t))):=by
 go_enter func123,ntmps123;go_wp2
 ·go_ret;exact⟨jK (by rw[Np.cP,Qb ‹_›]),rfl⟩
 ·go_ret;exact⟨jK (by rw[Np.cP,Qc (by omega),Qb ‹_›]),rfl⟩
 ·go_ret;exact⟨jK (by rw[Np.cP,Qc (by omega),Qc (by omega)]),rfl⟩
theorem Dy(c:UInt8):Np.oD c=decide ((97<=(c.toNat:Int)/\(c.toNat:Int)<=122)\/(48<=(c.toNat:Int)/\(c.toNat:Int)<=57)\/(c.toNat:Int)=32):=by
 have h:=oY c 32 (by decide);unfold Np.oD Np.qK Np.nK;rw[show (32:UInt8)=UInt8.ofNat 32 from rfl,h,Bool.eq_iff_iff];simp[UInt8.le_iff_toNat_le];omega
theorem Po(s:ByteArray)(h:(s.size:Int)<1):Np.kh s.data.toList=false:=by
 have:¬ 1<=s.size:=by omega
 simp[Np.kh,this]
theorem Pp(s:ByteArray)(h:40<(s.size:Int)):Np.kh s.data.toList=false:=by
 have:¬ s.size<=40:=by omega
 simp[Np.kh,this]
theorem Pq(s:ByteArray)(h0:0<s.size)(h:(s[0].toNat:Int)=32):Np.kh s.data.toList=false:=by
 have e:=oY s[0] 32 (by decide);rw[uQ (by simpa using h)] at e;have e2:s[0]=(32:UInt8):=by simpa using e
 simp[Np.kh,Bd s h0,e2]
theorem Pr(s:ByteArray)(h0:s.size - 1<s.size)(h:(s[s.size - 1].toNat:Int)=32):Np.kh s.data.toList=false:=by
 have e:=oY s[s.size - 1] 32 (by decide);rw[uQ (by simpa using h)] at e;have e2:s[s.size - 1]=(32:UInt8):=by simpa using e
 simp[Np.kh,Ey s h0,e2]
theorem Ps(s:ByteArray)(k:Nat)(hk:k<s.size)(h:Np.oD s[k]=false):Np.kh s.data.toList=false:=by
 have:s.data.toList.all Np.oD=false:=by
  rw[List.all_eq_false];exact⟨s[k],by rw[<-cQ.1 (ya s k hk) |>.2];exact List.getElem_mem _,by simp[h]⟩
 simp[Np.kh,this]
theorem Pt(s:ByteArray)(h1:1<=s.size)(h2:s.size<=40)(h3:¬ (s[0].toNat:Int)=32)(h4:¬ (s[s.size - 1].toNat:Int)=32)(h5:s.data.toList.all Np.oD=true):Np.kh s.data.toList=true:=by
 have e:=oY s[0] 32 (by decide);have e':=oY s[s.size - 1] 32 (by decide);rw[tQ (by simpa using h3)] at e;rw[tQ (by simpa using h4)] at e';have e2:¬ s[0]=(32:UInt8):=by simpa using e
 have e3:¬ s[s.size - 1]=(32:UInt8):=by simpa using e'
 simp[Np.kh,Ey s (by omega),Bd s (by omega),e2,e3,h5,h1,h2]
theorem YT(s:ByteArray)(hs:s.size<=140737488355328)(w:World) :
 Calls prog 301 #[.string s] w (aPQ w (.bool (Np.kh s.data.toList))):=by
 ·go_enter func301,ntmps301;go_wp2
  rotate_right
  ·go_ret;exact⟨ae (Po s ‹_›).symm,rfl⟩
  ·go_ret;exact⟨ae (Pp s ‹_›).symm,rfl⟩
  ·go_ret;exact⟨ae (Pq s ‹_› ‹_›).symm,rfl⟩
  ·have h:((s[s.size - 1].toNat:Int) == 32)=true:=by assumption
   go_ret;exact⟨ae (Pr s (by omega) (by simpa using h)).symm,rfl⟩
  ·have h2:(s.size:Int)<=40:=by assumption
   have h3:¬ (s[0].toNat:Int)=32:=by assumption
   have h4:((s[s.size - 1].toNat:Int) == 32)=false:=by assumption
   have H4:=jq h4;clear h4;have H3:=jq h3;go_loop [24] (λi=>∃ k:Nat,k<=s.size/\i = .int .i64 k/\(s.data.toList.take k).all Np.oD=true) (λi=>s.size - (intOf i).toNat)
   case atStart=>exact⟨0,jQ _,rfl,rfl⟩
   case round=>
    obtain⟨k,hk,rfl,ha⟩:=hrel;have HA:=jq ha;clear ha;by_cases aa:k<s.size
    ·have hb:=yV s[k];by_cases hf:(97<=(s[k].toNat:Int)/\(s[k].toNat:Int)<=122)\/(48<=(s[k].toNat:Int)/\(s[k].toNat:Int)<=57)\/(s[k].toNat:Int)=32
     ·have hl:Np.oD s[k]=true:=by rw[Dy];exact uQ hf
      have HL:=jq hl;clear hl;go_wp2
      all_goals first
       | (go_round
          case rel=>exact⟨k+1,by omega,by go_num,GW s k aa _ HA.out HL.out⟩
          case measure=>simp[intOf] <;> omega)
       | (exfalso
          have hne:((s[k].toNat:Int) != 32)=true:=by assumption
          have BA:=bne_iff_ne.1 hne;omega)
     ·have hl:Np.oD s[k]=false:=by rw[Dy];exact tQ hf
      have HL:=jq hl;clear hl;go_wp2
      all_goals first
       | (go_ret;exact⟨ae (Ps s k aa HL.out).symm,rfl⟩)
       | (exfalso;omega)
       | (exfalso
          have hne:((s[k].toNat:Int) != 32)=false:=by assumption
          have BA:(s[k].toNat:Int)=32:=by simpa using hne
          omega)
    ·go_wp2;go_ret;exact⟨ae (Pt s (by omega) (by omega) H3.out (by simpa using H4.out) (by have:=HA.out;rwa [E8 s k (by omega)] at this)).symm,rfl⟩
end
namespace Np
def cls(c:UInt8):Nat:=
 if c=32\/c=9\/c=10 then 1 else if c=35 then 2 else if qK c||nK c||c == 42 then 3 else if c=45 then 4 else if c=46 then 5 else if c=34 then 6
 else if c=123\/c=125\/c=59\/c=44\/c=61\/c=64 then 7 else 0
def sC(c:UInt8):Bool:=cls c == 3||cls c == 4||cls c == 5
def PU(c:UInt8):Bool:=c != 10
def JA(c:UInt8):Bool:=c != 34&&c != 10
def agZ(r:List UInt8):Nat:=if 1<=(r.takeWhile JA).length/\r[(r.takeWhile JA).length]?=some 34 then (r.takeWhile JA).length+2 else 0
def Ry:List UInt8->Nat
 | []=>0
 | c::r=>match cls c with
   | 1=>1
   | 2=>((c::r).takeWhile PU).length
   | 3=>((c::r).takeWhile sC).length
   | 5=>if ((c::r).takeWhile sC).length=1 then 1 else 0
   | 6=>agZ r
   | 7=>1
   | _=>0
structure Tok where
 kind:Int
 text:List UInt8
 n:Int
 pos:Int
deriving DecidableEq
def Tok.zero:Tok:=⟨0,[],0,0⟩
def dec(s:List UInt8):Nat:=s.foldl (λa c=>10 * a+(c.toNat - 48)) 0
def Ct(k:Nat)(s:List UInt8):Int×Tok:=
 if k=7 then (0,⟨3,s,0,0⟩)
 else if k=6 then (if 42<s.length then (3,Tok.zero) else (0,⟨1,s,0,0⟩))
 else if s.all nK=false then (if 60<s.length then (3,Tok.zero) else (0,⟨1,s,0,0⟩))
 else if 1<s.length/\s.head?=some 48 then (10,Tok.zero)
 else if 1000000000<dec s then (3,Tok.zero) else (0,⟨2,[],dec s,0⟩)
def oP:List UInt8->Nat->Nat->List Tok×Int×Nat
 | [],_,_=>([],0,0)
 | c::r,p,k=>
  let n:=Ry (c::r)
  if cls c=1\/cls c=2 then oP (r.drop (n - 1)) (p+n) k
  else if n=0 then ([],10,p)
  else if k=2000 then ([],2,p)
  else if (Ct (cls c) ((c::r).take n)).1≠0 then ([],(Ct (cls c) ((c::r).take n)).1,p)
  else
   let x:=oP (r.drop (n - 1)) (p+n) (k+1)
   ({ (Ct (cls c) ((c::r).take n)).2 with pos:=p } :: x.1,x.2)
termination_by l=>l.length
decreasing_by all_goals (simp;omega)
def lex(s:List UInt8):List Tok×Int×Nat:=
 if 8000<s.length then ([],2,0) else if (oP s 0 0).2.1=0 then ((oP s 0 0).1,0,0) else ([],(oP s 0 0).2)

end Np
section
open Go.RowKit
def orI:List Int->Int
 | []=>0
 | x::xs=>if x≠0 then x else orI xs
theorem aaK(xs:List Int)(h:∀ x∈xs,x=0):orI xs=0:=by
 induction xs with
 | nil=>rfl
 | cons x r ih=>rw[orI,Qc (by simp[h x (by simp)])];exact ih (λy hy=>h y (by simp[hy]))
theorem aaJ(xs:List Int)(k:Nat)(hk:k<xs.length)(h:∀ x∈xs.take k,x=0)(hx:xs[k]≠0):orI xs=xs[k]:=by
 induction xs generalizing k with
 | nil=>simp at hk
 | cons x r ih=>
  cases k with
  | zero=>simp at hx;simp[orI,hx]
  | succ k=>
   have h0:x=0:=h x (by simp);rw[orI,Qc (by simp[h0])];simpa using ih k (by simpa using hk) (λy hy=>h y (by simp[hy])) (by simpa using hx)
theorem Va(b c:Nat)(xs:List Int)(hl:xs.length<=1000)(w:World)(hc:∀ i x,xs[i]?=some x->w.cell? ⟨b,i,none⟩=some (.int .i64 x)) :
 Calls prog 302 #[.slice (some ⟨b,0,none⟩) xs.length c] w (aPQ w (.int .i64 (orI xs))):=by
 have HC:=jq hc;clear hc;go_enter func302,ntmps302;go_wp2;go_loop [8] (λi=>∃ k:Nat,k<=xs.length/\i = .int .i64 k/\Hid (∀ x∈xs.take k,x=0)) (λi=>xs.length - (intOf i).toNat)
 case atStart=>exact⟨0,jQ _,rfl,jq (by simp)⟩
 case round=>
  obtain⟨k,hk,rfl,HA⟩:=hrel;by_cases aa:k<xs.length
  ·have hcell:w.cell? ⟨b,k,none⟩=some (.int .i64 xs[k]):=HC.out k _ (aQ aa);go_wp2
   ·have hne:(xs[k] != 0)=true:=by assumption
    go_ret;exact⟨jK (aaJ xs k aa HA.out (by simpa using hne)).symm,rfl⟩
   ·have hne:(xs[k] != 0)=false:=by assumption
    go_round
    case rel=>
     refine⟨k+1,by omega,by go_num,jq ?_⟩;rw[fQ aa];intro x hx;rcases List.mem_append.1 hx with h | h
     ·exact HA.out x h
     ·simp at h;subst h;simpa using hne
    case measure=>simp[intOf] <;> omega
  ·go_wp2;go_ret;exact⟨jK (aaK xs (by have:=HA.out;rwa [kQ (by omega)] at this)).symm,rfl⟩
theorem U9(a b:Np.Datum):Np.qo a b=orI [Np.cN a.text b.text,Np.cP a.n b.n,Np.cP a.m b.m]:=by
 simp only[Np.qo,orI];split
 ·rfl
 ·split
  ·rfl
  ·split
   ·rfl
   ·rename_i h;simpa using h
theorem Vf(s t:ByteArray)(n1 m1 n2 m2:Int)(w:World) :
 Calls prog 231 #[.agg #[.string s,.int .i64 n1,.int .i64 m1],.agg #[.string t,.int .i64 n2,.int .i64 m2]] w
  λe w'=>e = .returned (.int .i64 (Np.qo ⟨s.data.toList,n1,m1⟩ ⟨t.data.toList,n2,m2⟩))/\Below w.heap.size w w':=by
 rw[U9];go_enter func231,ntmps231;go_wp2;refine RG 15 (by kernel_rfl) (by kernel_rfl) ?_;simp only[List.take_succ_cons,List.take_zero,List.drop_succ_cons,List.drop_zero]
 iterate 4 still_step
 still_call (Calls.still_same (Vb _ _ _))
 iterate 4 still_step
 still_call (Calls.still_same (zZ _ _ _))
 iterate 4 still_step
 still_call (Calls.still_same (zZ _ _ _))
 refine wpStill_nil ?_;go_wp2_with fail;refine (Va (w.heap.size+1+1) 3 [Np.cN s.data.toList t.data.toList,Np.cP n1 n2,Np.cP m1 m2] (by simp) _ ?_).mono ?_
 ·intro i x hx
  match i,hx with
  | 0,hx=>simp at hx;subst hx;go_simp
  | 1,hx=>simp at hx;subst hx;go_simp
  | 2,hx=>simp at hx;subst hx;go_simp
  | i+3,hx=>simp at hx
 ·rintro e w' ⟨rfl,rfl⟩;go_wp2_with fail;go_ret;exact⟨rfl,((((vQ _ w).alloc (bQ _) _).alloc (by simp) _).alloc (by simp;omega) _).drew⟩
def jo(r:Np.Rule):Array Value:=#[.int .i64 r.text,.int .i64 r.leastN,.int .i64 r.mostN,.int .i64 r.leastM,.int .i64 r.mostM,.bool r.even,.bool r.single,.bool r.wild]
theorem aAK(k ln mn lm mm:Int)(ev si wi:Bool)(s:ByteArray)(hs:s.size<=140737488355328)(n m:Int)(w:World) :
 Calls prog 230 #[.agg #[.int .i64 k,.int .i64 ln,.int .i64 mn,.int .i64 lm,.int .i64 mm,.bool ev,.bool si,.bool wi],.agg #[.string s,.int .i64 n,.int .i64 m]] w
  λe w'=>e = .returned (.bool (Np.kn ⟨k,ln,mn,lm,mm,ev,si,wi⟩ ⟨s.data.toList,n,m⟩))/\Below w.heap.size w w':=by
 go_enter func230,ntmps230;go_wp2_with (first
  | (go_at_call 228;refine (Ks _ _ _ _).mono ?_;rintro e w' ⟨rfl,rfl⟩)
  | (go_at_call 105;refine (nameValid_any _ hs _).mono ?_;rintro e w' ⟨rfl,hb⟩;obtain⟨hc,hf⟩:=tf hb)
  | (go_at_call 229;refine (Pw _ hs _).mono ?_;rintro e w' ⟨rfl,rfl⟩)
  | (go_at_call 301;refine (YT _ hs _).mono ?_;rintro e w' ⟨rfl,rfl⟩))
 all_goals
  go_ret;go_light;refine⟨ae ?_,?_⟩
  ·simp_all [Np.kn,Np.wP,dQ] <;> (intros;omega)
  ·first
    | exact ((vQ _ w).alloc (bQ _) _).alloc (by simp) _
    | exact (((vQ _ w).alloc (bQ _) _).alloc (by simp) _).trans (hb.mono (by simp;omega))
end
namespace Np
structure IsGap(g:List UInt8):Prop where
 skip:∀ x p k,oP (g++x) p k=oP x (p+g.length) k
 stop:∃ c r,g=c::r/\sC c=false
 rest:∀ p k,oP (g.drop (g.takeWhile PU).length) p k=([],0,0)
def nk(n:Nat):List UInt8:=if n<10 then [UInt8.ofNat (48+n)] else nk (n / 10) ++ [UInt8.ofNat (48+n % 10)]
theorem Vy(t:List UInt8)(c:UInt8):dec (t ++ [c])=10 * dec t+(c.toNat - 48):=by simp[dec]
theorem W9{t u:List UInt8}(h:t≠[]):(t++u).head?=t.head?:=by
 cases t with
 | nil=>exact absurd rfl h
 | cons a t=>rfl
def RQ(y:List UInt8):Prop:=y = []\/y.head?=some 32
def Dm(t:Tok):Tok:={ t with pos:=0 }
def mc(x:List UInt8)(t:Tok):Prop:=∃ c r,x=c::r/\¬ (cls c=1\/cls c=2)/\(∀ y,RQ y->Ry (x++y)=x.length)/\(Ct (cls c) x).1=0/\Dm (Ct (cls c) x).2=Dm t
structure Sig where
 zone:List UInt8
 key:Int
 alg:Int
 frm:Int
 til:Int
 sum:Int
deriving DecidableEq
structure Signed where
 set:DSet
 sigs:List Sig
deriving DecidableEq
structure Span where
 frm:Int
 til:Int
deriving DecidableEq
def wI(g x:Sig):Bool:=(x.frm != g.frm)||(x.til != g.til)
def l6:List Sig->Bool
 | []=>true
 | g::r=>!(decide (g.frm<0)||decide (g.til<g.frm)||decide (20000000<g.til))&&!((g::r).any (wI g))
def plain(s:Signed):Bool:=dC s.set&&decide (s.sigs.length<=6)&&l6 s.sigs
def fW(s:Signed)(drift stop:Int):Int:=if 0<=drift/\drift<=1000/\1<=stop/\stop<=20000000/\plain s=true then 0 else 1
def oW(s:Signed)(drift:Int):Int:=match s.sigs with | []=>0 | g::_=>g.frm+drift
def oX(s:Signed)(drift stop:Int):Int:=match s.sigs with | []=>stop | g::_=>min stop (g.til - drift+1)
def fV(s:Signed)(drift stop:Int):List Span:=
 if fW s drift stop=0 then (if oX s drift stop<=oW s drift then [] else [⟨oW s drift,oX s drift stop⟩]) else []
def wN(length drift life:Int):Int:=length - max life 1 - 3 * drift+2
def wM(begin stop length drift life:Int):Prop:=0<=drift/\drift<=1000/\1<=stop/\stop<=10000000/\drift<=begin/\begin<=stop - 1/\1<=length/\length<=10000000/\0<=life/\life<=100000
instance (b s l d f:Int):Decidable (wM b s l d f):=by unfold wM;infer_instance
def fZ(b s k:Int):List Int:=(List.range ((s - b+k - 1) / k).toNat).map λ(i:Nat)=>b+i * k
def fY(b s l d f:Int):Int:=if wM b s l d f then (if wN l d f<1 then 32 else if 400<(fZ b s (wN l d f)).length then 2 else 0) else 1
def times(b s l d f:Int):List Int:=if fY b s l d f=0 then fZ b s (wN l d f) else []
structure Zone where
 apex:List UInt8
 sets:List Signed
deriving DecidableEq
def nj:List (List UInt8)->List (List UInt8)->Int
 | [],_=>-1
 | _::_,[]=>1
 | x::xs,y::ys=>if cN x y≠0 then cN x y else nj xs ys
def aI(a b:List UInt8):Int:=if a=b then 0 else nj (back a) (back b)
def hZ(a b:DSet):Int:=if a.name≠b.name then aI a.name b.name else cP a.type b.type
def bq(s z:List UInt8):Bool:=s == z||z == [46]||(decide (z.length<s.length)&&(s.drop (s.length - z.length) == z)&&(s[s.length - z.length - 1]? == some 46))
def jY(apex:List UInt8):Option DSet->List Signed->Bool
 | _,[]=>true
 | p,x::r=>(aG x.set.name&&bq x.set.name apex)&&dC x.set&&(match p with | none=>true | some q=>decide (hZ q x.set<0))&&jY apex (some x.set) r
def eX(z:Zone):Bool:=aG z.apex&&!eF z.apex&&jY z.apex none z.sets
theorem Nh:∀ (xs:List (List UInt8)) (n:Nat) (w:Bool),fq xs n w=true->∀ x∈xs,x = [42]\/cD x=true:=by
 intro xs
 induction xs with
 | nil=>intro _ _ _ x h;cases h
 | cons y xs ih=>
  intro n w h x hx;rw[fq] at h;split at h
  ·cases h
  ·split at h
   ·rename_i hy;rcases List.mem_cons.1 hx with rfl | hx
    ·exact .inl hy
    ·exact ih _ _ h x hx
   ·split at h
    ·rename_i hy;rcases List.mem_cons.1 hx with rfl | hx
     ·exact .inr hy
     ·exact ih _ _ h x hx
    ·cases h
theorem Hl{r:Rule} : ∀ {ds:List Datum} {p:Option Datum},jz r p ds=true->∀ d∈ds,kn r d=true
 | [],_,_,d,h=>by cases h
 | e::ds,p,h,d,hd=>by
   simp only[jz,Bool.and_eq_true] at h;rcases List.mem_cons.1 hd with rfl | hd
   ·exact h.1.1
   ·exact Hl h.2 d hd
theorem um{s:DSet}(h:dC s=true):aG s.name=true/\1<=s.type/\s.type<=8/\0<=s.life/\s.life<=100000/\1<=s.data.length/\s.data.length<=8/\jz (bV s.type) none s.data=true:=by
 unfold dC at h;simp only[Bool.and_eq_true,Qa] at h;obtain⟨⟨⟨⟨⟨⟨h1,h2,h3⟩,h4,h5⟩,h6,h7⟩,_⟩,_⟩,h8⟩:=h;exact⟨h1,h2,h3,h4,h5,h6,h7,h8⟩
theorem Dz{apex:List UInt8} : ∀ {l:List Signed} {p:Option DSet},jY apex p l=true->∀ x∈l,dC x.set=true
 | [],_,_,x,h=>by cases h
 | y::l,p,h,x,hx=>by
   simp only[jY,Bool.and_eq_true] at h;rcases List.mem_cons.1 hx with rfl | hx
   ·exact h.1.1.2
   ·exact Dz h.2 x hx
end Np
end Go.Proofs.YtfnopgdcaanaiaaGreatDoor
namespace Go.Proofs
open YtfnopgdcaanaiaaGreatDoor
open Go.Shelf
def Tryz.lays106_ren:Go.Shelf.Ren:=⟨fun | 106=>216 | 213=>299 | 265=>346 | n=>n,fun | 9=>9 | 3=>3 | n=>n,fun | n=>n⟩
theorem Tryz.lays106:Go.Proofs.Lays.n106 Tryz.prog Tryz.lays106_ren:={
 mixed:=by kernel_rfl
 f106:=Tryz.func216.trans (aLJ)
 f213:=Tryz.func299.trans (aLJ)
 f265:=Tryz.func346.trans (aLJ)
 t3:=Tryz.underlying3
 a3:=Tryz.isAgg3
 z3:=Tryz.sizeOf3
 v3:=Tryz.zeroValue3
 t9:=Tryz.underlying9
 a9:=Tryz.isAgg9
 z9:=Tryz.sizeOf9
 v9:=Tryz.zeroValue9 }
open Go.RowKit in
theorem Tryz.strings_Compare(a b:ByteArray)(w:World) :
 Calls Tryz.prog 216 #[.string a,.string b] w λe w'=>e = .returned (.int .i64 (Lib.compareBytes a.data.toList b.data.toList))/\w'=w:=Any.strings_Compare Tryz.lays106 a b w
end Go.Proofs
namespace Go.Proofs.YtfnopgdcaanaiaaGreatDoor
open Go.Proofs.Tryz
namespace D
open Go.RowKit Go.Shelf
attribute [local go_sem] Oper.semAt_some
def rt(W:World)(lm lr:Nat)(rem:List (List UInt8)):Prop:=
 ∃ (more:Bool) (r:ByteArray),Boxed W lm 4 (.bool more)/\Boxed W lr 9 (.string r)/\r.size<=140737488355328/\rem=if more then (Np.aZ r.data.toList).reverse else []
theorem rt.it{B:Nat}{S:Nat->Prop}{W W':World}{lm lr:Nat}{rem:List (List UInt8)}(h:rt W lm lr rem)(hs:ItStep B S W W')(h1:S lm)(h2:S lr):rt W' lm lr rem:=by
 obtain⟨more,r,b1,b2,h3,h4⟩:=h;exact⟨more,r,g9 b1 hs h1,g9 b2 hs h2,h3,h4⟩
def GR(W:World)(lm lr:Nat)(rem:List (List UInt8))(e:Ending)(W':World):Prop:=
 (rem = []/\e = .returned (.tuple #[.string ⟨#[]⟩,.bool false])/\W'=W)\/
 ∃ x rest,rem=x::rest/\e = .returned (.tuple #[aC x,.bool true])/\rt W' lm lr rest/\∃ b u,(b=lm\/b=lr)/\W'=W.setCell ⟨b,0,none⟩ u
theorem ZX(lm lr:Nat)(hne:lm≠lr)(rem:List (List UInt8))(w:World)(h:rt w lm lr rem) :
 Calls prog 297 #[.pointer (some ⟨lm,0,none⟩),.pointer (some ⟨lr,0,none⟩)] w (GR w lm lr rem):=by
 obtain⟨more,r,b1,b2,h3,h4⟩:=h;have HR:=jq h4;clear h4;have c1:=b1.cell;have c2:=b2.cell;have f1:=b1.frozen;have f2:=b2.frozen
 cases more with
 | false=>
  go_enter func297,ntmps297;go_wp2_with fail;refine bodyPost_ret (v:=.tuple #[.string ⟨#[]⟩,.bool false]) (by simp[results,results297,go_sem]) rfl ?_;exact .inl ⟨HR.out,rfl,rfl⟩
 | true=>
  go_enter func297,ntmps297;go_wp2_with fail;refine (JC _ h3 _ (by decide) (by decide) _).mono ?_;rintro e w' ⟨q,hq,rfl,rfl⟩;rcases hq with ⟨rfl,iA⟩ | ⟨a,b,ia,nC,rfl⟩
  ·have bh:Np.aZ r.data.toList = [r.data.toList]:=Np.yR iA;have HS:=jq bh;clear bh iA;go_wp2_with fail;refine bodyPost_ret (v:=.tuple #[.string r,.bool true]) (by simp[results,results297,go_sem]) rfl ?_;refine .inr ⟨r.data.toList,[],by rw[HR.out,Qb trivial,HS.out];rfl,rfl,⟨false,r,b1.set _,cn b2 (by simpa using hne.symm) _,h3,rfl⟩,lm,_,.inl rfl,rfl⟩
  ·have lZ:a.length+1+b.length=r.size:=by rw[<-bk,ia];simp;omega
   have bh:Np.aZ r.data.toList=Np.aZ a ++ [b]:=by rw[ia];exact (Np.Cl a b).trans (by rw[Np.yR nC])
   have sr:(r.extract (a.length+1) r.size).data.toList=b:=by rw[Dq,ia];simp
   have qF:(r.extract 0 a.length).data.toList=a:=by rw[Ds,ia];simp
   have Ui:Hid (r.extract (a.length+1) r.size=⟨b.toArray⟩):=jq (mT (by rw[sr]));have L5:=jq qF;have HS:=jq bh;clear bh sr qF ia nC;have iO:a.length<=140737488355328:=by omega
   have NI:a.length+1<=r.size:=by omega
   have aMX:(a.length:Int)+1<=(r.size:Int):=by omega
   clear lZ;go_wp2_with fail;refine bodyPost_ret (v:=.tuple #[.string (r.extract (a.length+1) r.size),.bool true]) (by simp[results,results297,go_sem]) rfl ?_;refine .inr ⟨b,(Np.aZ a).reverse,by rw[HR.out,Qb trivial,HS.out];simp,by rw[Ui.out],⟨true,r.extract 0 a.length,cn b1 (by simpa using hne) _,b2.set _,by rw[<-bk,L5.out];omega,by rw[L5.out];rfl⟩,lr,_,.inr rfl,rfl⟩
theorem agQ(t:ByteArray)(ht:t.size<=140737488355328)(w:World) :
 Calls prog 214 #[.string t] w λe w'=>e = .returned (.func (.func 297) #[] #[.pointer (some ⟨w.heap.size+1,0,none⟩),.pointer (some ⟨w.heap.size,0,none⟩)])/\
  rt w' (w.heap.size+1) w.heap.size (Np.back t.data.toList)/\Below w.heap.size w w'/\w'.heap.size=w.heap.size+2:=by
 have b0:=Boxed.new w 9 (.string t);have hb:∀ o o',Below w.heap.size w ((w.alloc o).alloc o'):=λo o'=>((vQ _ w).alloc (bQ _) _).alloc (by simp) _;by_cases he:t.data.toList = [46]
 ·have ie:(t.toList == [46])=true:=by rw[dQ,he];rfl
  have b1:=Boxed.new (w.alloc (.cells #[.string t] 9)) 4 (.bool false);rw[World.size_alloc] at b1;have HB:Hid (Np.back t.data.toList = []):=jq (by simp[Np.back,he]);clear he;go_enter func214,ntmps214;go_wp2_with fail;go_ret;exact⟨rfl,⟨false,t,b1,b0.alloc _,ht,by rw[HB.out];rfl⟩,hb _ _,by simp⟩
 ·have ie:(t.toList == [46])=false:=by rw[dQ];simpa using he
  have b1:=Boxed.new (w.alloc (.cells #[.string t] 9)) 4 (.bool true);rw[World.size_alloc] at b1;have HB:Hid (Np.back t.data.toList=(Np.aZ t.data.toList).reverse):=jq (by simp[Np.back,he]);clear he;go_enter func214,ntmps214;go_wp2_with fail;go_ret;exact⟨rfl,⟨true,t,b1,b0.alloc _,ht,by rw[HB.out];rfl⟩,hb _ _,by simp⟩
theorem Vc:∀ a b:List UInt8,Lib.compareBytes a b=Np.cN a b:=by
 intro a
 induction a with
 | nil=>
  intro b
  cases b with
  | nil=>rfl
  | cons y b=>simp[Lib.compareBytes,Np.cN,Op.bytesLess]
 | cons x a ih=>
  intro b
  cases b with
  | nil=>simp[Lib.compareBytes,Np.cN,Op.bytesLess]
  | cons y b=>
   rw[Lib.compareBytes,ih b];by_cases h1:x<y
   ·simp[Np.cN,Op.bytesLess,h1]
   ·by_cases h2:y<x
    ·have h3:¬ x=y:=λe=>by subst e;exact h1 h2
     simp[Np.cN,Op.bytesLess,h1,h2,h3]
    ·have h3:x=y:=by
      apply UInt8.toNat_inj.1;simp only[UInt8.lt_iff_toNat_lt] at h1 h2;omega
     subst h3;simp[Np.cN,Op.bytesLess,h1]
theorem avK(s t:ByteArray)(w:World) :
 Calls prog 216 #[.string s,.string t] w λe w'=>e = .returned (.int .i64 (Np.cN s.data.toList t.data.toList))/\w=w':=
 (Tryz.strings_Compare s t w).mono λe w' ⟨he,hw⟩=>⟨by rw[he,Vc],hw.symm⟩
def Fl(g lm lr l8:Nat)(S:Nat->Prop):Prop:=∀ k,S k↔k=g\/k=g+1\/k=lm\/k=lr\/k=l8
def Fk(w:World)(g lm lr l8:Nat)(fv:Value)(m n:List UInt8)(pre:List (List UInt8))(S:Nat->Prop)(W:World):Prop:=
 Fl g lm lr l8 S/\Boxed W g 3 (.int .i64 0)/\Boxed W (g+1) 37 (.int .i64 0)/\Boxed W l8 273 fv/\
 (∃ rem,rt W lm lr rem/\∀ rest,Np.back m=pre++rest->Np.nj (Np.back m) (Np.back n)=Np.nj rest rem)/\Below w.heap.size w W
def Fm(w:World)(g lm lr l8:Nat)(m n:List UInt8)(c:Code)(_:List (List UInt8))(S:Nat->Prop)(W:World):Prop:=
 c = .ret/\Fl g lm lr l8 S/\Boxed W g 3 (.int .i64 (Np.nj (Np.back m) (Np.back n)))/\Boxed W (g+1) 37 (.int .i64 0)/\Below w.heap.size w W
theorem MD(w:World)(g lm lr l8:Nat)(fv:Value)(m n:List UInt8)(B:Nat)(hB:w.heap.size<=B):fm B (Fk w g lm lr l8 fv m n):=by
 rintro s S W W' ⟨hS,h1,h2,h3,⟨rem,h4,h5⟩,h6⟩ az;exact⟨hS,g9 h1 az ((hS _).2 (.inl rfl)),g9 h2 az ((hS _).2 (.inr (.inl rfl))),g9 h3 az ((hS _).2 (.inr (.inr (.inr (.inr rfl))))),
  ⟨rem,h4.it az ((hS _).2 (.inr (.inr (.inl rfl)))) ((hS _).2 (.inr (.inr (.inr (.inl rfl))))),h5⟩,th h6 az hB (bQ _)⟩
theorem Vd(w:World)(g lm lr l8:Nat)(m n:List UInt8)(B:Nat)(hB:w.heap.size<=B)(c:Code):fm B (Fm w g lm lr l8 m n c):=by
 rintro s S W W' ⟨hc,hS,h1,h2,h6⟩ az;exact⟨hc,hS,g9 h1 az ((hS _).2 (.inl rfl)),g9 h2 az ((hS _).2 (.inr (.inl rfl))),th h6 az hB (bQ _)⟩
theorem GR.rd{W W':World}{lm lr:Nat}{rem:List (List UInt8)}{e:Ending}(h:GR W lm lr rem e W'):(rem = []/\e = .returned (.tuple #[.string ⟨#[]⟩,.bool false])/\W'=W)\/
 ∃ x rest,rem=x::rest/\e = .returned (.tuple #[aC x,.bool true])/\rt W' lm lr rest/\(∀ S:Nat->Prop,S lm->S lr->RdStep S W W')/\(∀ b t v,b≠lm->b≠lr->Boxed W b t v->Boxed W' b t v)/\(∀ (n:Nat) (w:World),n<=lm->n<=lr->Below n w W->Below n w W'):=by
 rcases h with h | ⟨x,rest,h1,h2,h3,b,u,hb,rfl⟩
 ·exact .inl h
 ·refine .inr ⟨x,rest,h1,h2,h3,λS s1 s2=>?_,λb' t v n1 n2 hv=>cn hv (by rcases hb with rfl | rfl <;> assumption) _,λn w n1 n2 hB=>hB.setCell (p:=⟨b,0,none⟩) (by rcases hb with rfl | rfl <;> assumption) _⟩;exact RdStep.setCell (RdStep.refl S W) (.inl (by rcases hb with rfl | rfl <;> assumption)) _
theorem MH{w:World}{lm lr l8:Nat}{fv:Value}{m n:List UInt8}{pre:List (List UInt8)}{S:Nat->Prop}{W W3:World}{a:Act}{v0 v1:Value}{q:Int}(hS:Fl w.heap.size lm lr l8 S)
 (hr:RdStep S W W3) (aa:∀ k,S k->k<W.heap.size) (c0:Boxed W3 w.heap.size 3 v0) (c1:Boxed W3 (w.heap.size+1) 37 v1) (hB:Below w.heap.size w W3) (hv:Np.nj (Np.back m) (Np.back n)=q) :
 ni (Fk w w.heap.size lm lr l8 fv m n) (Fm w w.heap.size lm lr l8 m n) pre S W .ret a ((W3.setCell ⟨w.heap.size,0,none⟩ (.int .i64 q)).setCell ⟨w.heap.size+1,0,none⟩ (.int .i64 0)):=
 ⟨S,(hr.setCell (.inl ((hS _).2 (.inl rfl))) _).setCell (.inl ((hS _).2 (.inr (.inl rfl)))) _,λ_ e=>.inl e,λk e=>by have:=aa k e;have:=hr.size;simp[World.setCell];omega,rfl,hS,
  by rw[hv];exact cn (c0.set _) (by simp) _,(cn c1 (by simp) _).set _,(hB.setCell (bQ _) _).setCell (by simp) _⟩
def cmpVal(a b:List UInt8):Value:=if Np.aG a&&Np.aG b then .tuple #[.int .i64 (Np.aI a b),.int .i64 0] else .tuple #[.int .i64 0,.int .i64 11]
theorem compare_any(a b:ByteArray)(ha:a.size<=140737488355328)(hb:b.size<=140737488355328)(w:World) :
 Calls prog 137 #[.string a,.string b] w λe w'=>e = .returned (cmpVal a.data.toList b.data.toList)/\Below w.heap.size w w':=by
 refine (callsIn_wide (n:=0)).1 ?_;refine callsIn_of_wp_marks func137 rfl trivial ?_ rfl;simp only[ntmps137,List.size_toArray,List.length_cons,List.length_nil,Nat.reduceAdd,Nat.reduceSub,Array.replicate_succ,Array.replicate_zero,List.push_toArray,List.append_toArray,List.nil_append,List.cons_append];have b0:=Boxed.new w 3 (.int .i64 0);have b1:=Boxed.new (w.alloc (.cells #[.int .i64 0] 3)) 37 (.int .i64 0);rw[World.size_alloc] at b1;replace b0:=b0.alloc (.cells #[.int .i64 0] 37);have eM:Below w.heap.size w ((w.alloc (.cells #[.int .i64 0] 3)).alloc (.cells #[.int .i64 0] 37)):=((vQ _ w).alloc (bQ _) _).alloc (by simp) _;gi_wp2_with fail;refine⟨trivial,rfl,?_⟩;refine (callsIn_wide.2 (valid_any a ha _)).mono ?_;rintro e w1 ⟨rfl,aq⟩;replace b0:=bT b0 aq (by simp;omega);replace b1:=bT b1 aq (by simp);replace eM:=eM.trans (aq.mono (by simp;omega));clear aq;have rE:∀ (W:World) (tmps:Array Value),Boxed W w.heap.size 3 (.int .i64 0)->Boxed W (w.heap.size+1) 37 (.int .i64 11)->Below w.heap.size w W->(Np.aG a.data.toList&&Np.aG b.data.toList)=false->
  tmps[4]?=some (.pointer (some ⟨w.heap.size,0,none⟩))->tmps[5]?=some (.pointer (some ⟨w.heap.size+1,0,none⟩))->
  bodyPostM Fence.wide 0 prog Tryz.f137 (λe w'=>e = .returned (cmpVal a.data.toList b.data.toList)/\Below w.heap.size w w') .ret { tmps:=tmps,defers:=[] } W:=λW tmps c0 c1 hB hv t4 t5=>by
  have d0:=c0.cell;have d1:=c1.cell;exact nl (v:=.tuple #[.int .i64 0,.int .i64 11]) (by simp[results,results137,go_sem,d0,d1,t4,t5]) ⟨by rw[cmpVal,hv];rfl,hB⟩
 have sJ:=jq rE;clear rE;have c0:=b0.cell;have c1:=b1.cell;have f0:=b0.frozen;have f1:=b1.frozen
 cases va:Np.aG a.data.toList with
 | false=>
  gi_wp2_with fail;refine⟨trivial,?_⟩;gi_wp2_with fail;refine sJ.out _ _ (cn (b0.set _) (by simp) _) ((cn b1 (by simp) _).set _) ((eM.setCell (bQ _) _).setCell (by simp) _) (by rw[va];rfl) rfl rfl
 | true=>
  have VA:=jq va;clear va c0 c1 f0 f1;gi_wp2_with fail;refine⟨trivial,rfl,?_⟩;refine (callsIn_wide.2 (valid_any b hb _)).mono ?_;rintro e w2 ⟨rfl,ac⟩;have bh:w.heap.size+1<w1.heap.size:=b1.lt;replace b0:=bT b0 ac (by omega);replace b1:=bT b1 ac bh;replace eM:=eM.trans (ac.mono (by omega));have cJ:=ac.size;clear ac;have c0:=b0.cell;have c1:=b1.cell;have f0:=b0.frozen;have f1:=b1.frozen
  cases vb:Np.aG b.data.toList with
  | false=>
   gi_wp2_with fail;refine sJ.out _ _ (cn (b0.set _) (by simp) _) ((cn b1 (by simp) _).set _) ((eM.setCell (bQ _) _).setCell (by simp) _) (by rw[vb,Bool.and_false]) rfl rfl
  | true=>
   have VV:Hid ((Np.aG a.data.toList&&Np.aG b.data.toList)=true):=jq (by rw[VA.out,vb];rfl);clear vb VA sJ;by_cases ia:a.data.toList=b.data.toList
   ·have WG:(a.toList == b.toList)=true:=by rw[dQ,dQ,ia];simp
    gi_wp2_with fail;have d0:=(cn (b0.set (.int .i64 0)) (p:=⟨w.heap.size+1,0,none⟩) (by simp) (.int .i64 0)).cell;have d1:=((cn b1 (p:=⟨w.heap.size,0,none⟩) (by simp) (.int .i64 0)).set (.int .i64 0)).cell;exact nl (v:=.tuple #[.int .i64 0,.int .i64 0]) (by simp[results,results137,go_sem,d0,d1]) ⟨by rw[cmpVal,VV.out,ia];simp[Np.aI],(eM.setCell (bQ _) _).setCell (by simp) _⟩
   ·have WG:(a.toList == b.toList)=false:=by rw[dQ,dQ];simpa using ia
    have HV:Hid (cmpVal a.data.toList b.data.toList = .tuple #[.int .i64 (Np.nj (Np.back a.data.toList) (Np.back b.data.toList)),.int .i64 0]):=jq (by rw[cmpVal,VV.out];simp[Np.aI,ia]);clear ia;gi_wp2_with fail;refine⟨trivial,rfl,?_⟩;refine (callsIn_wide.2 (agQ b hb _)).mono ?_;rintro e w3 ⟨rfl,yy,ak,dG⟩;have mr:=jq dG;clear dG;replace b0:=bT b0 ak (by omega);replace b1:=bT b1 ak (by omega);replace eM:=eM.trans (ak.mono (by omega));clear ak;have hl:=eM.size;have b8:=Boxed.new w3 273 (.func (.func 297) #[] #[.pointer (some ⟨w2.heap.size+1,0,none⟩),.pointer (some ⟨w2.heap.size,0,none⟩)]);replace b0:=b0.alloc (.cells #[.func (.func 297) #[] #[.pointer (some ⟨w2.heap.size+1,0,none⟩),.pointer (some ⟨w2.heap.size,0,none⟩)]] 273);replace b1:=b1.alloc (.cells #[.func (.func 297) #[] #[.pointer (some ⟨w2.heap.size+1,0,none⟩),.pointer (some ⟨w2.heap.size,0,none⟩)]] 273);replace yy:rt (w3.alloc (.cells #[.func (.func 297) #[] #[.pointer (some ⟨w2.heap.size+1,0,none⟩),.pointer (some ⟨w2.heap.size,0,none⟩)]] 273)) (w2.heap.size+1) w2.heap.size (Np.back b.data.toList):=yy.it (B:=w3.heap.size) (S:=λ_=>True) (sD _) trivial trivial;replace eM:=eM.alloc eM.size (.cells #[.func (.func 297) #[] #[.pointer (some ⟨w2.heap.size+1,0,none⟩),.pointer (some ⟨w2.heap.size,0,none⟩)]] 273);clear c0 c1 f0 f1;have n8:=Boxed.new w3 273 .nilFunc;have n8c:=n8.cell;have n8f:=n8.frozen;gi_wp2_with fail;clear n8 n8c n8f;have hEG:=enters_of func297 (by kernel_rfl) rfl;have aTX:w.heap.size+1<w2.heap.size:=by omega
    have da:w3.heap.size=w2.heap.size+2:=mr.out;refine Cx (n₀:=w.heap.size) (w0:=w) (first:=#[.string a]) (captured:=#[]) (gf:=215) rfl (enters_of func215 (by kernel_rfl) rfl) (mk:=λy=>#[.string a,y]) (λ_=>rfl)
     (Dg a ha _ w) eM eM.size (λ_=>rfl) (Fk w w.heap.size (w2.heap.size+1) w2.heap.size w3.heap.size (.func (.func 297) #[] #[.pointer (some ⟨w2.heap.size+1,0,none⟩),.pointer (some ⟨w2.heap.size,0,none⟩)]) a.data.toList b.data.toList)
     (Fm w w.heap.size (w2.heap.size+1) w2.heap.size w3.heap.size a.data.toList b.data.toList)
     (MD _ _ _ _ _ _ _ _ _ eM.size) (λc=>Vd _ _ _ _ _ _ _ _ eM.size c)
     (λk=>k=w.heap.size\/k=w.heap.size+1\/k=w2.heap.size+1\/k=w2.heap.size\/k=w3.heap.size) (by intro k h;omega) (by intro k h;simp;omega)
     ⟨λ_=>Iff.rfl,b0,b1,b8,⟨_,yy,λrest h=>by rw[h];rfl⟩,eM⟩ ?round ?done ?stop
    case round=>
     rintro l0 pre x S W bg hI gh;clear da;gi_wp2;refine⟨S,RdStep.refl _ _,λk e=>.inl e,gh,?_⟩;intro l W₂ az;obtain⟨hS,c0,c1,c8,⟨rem,hp,BL⟩,hB⟩:=MD w w.heap.size _ _ _ _ _ _ _ eM.size pre S W W₂ hI az;have c8c:=c8.cell;have fu:∀ k,S k->k<W₂.heap.size:=λk e=>lQ (gh k e) az.size;have hx:x∈Np.back a.data.toList:=bg.subset (by simp);have sw:x.length<=140737488355328:=by have:=Np.Df hx;rw[bk] at this;omega
     obtain⟨rest,se⟩:=bg;have j6:=BL (x::rest) (by rw[<-se];simp);have HR:=jq se;have HG:=jq j6;clear se j6 BL hx hI az b0 b1 b8 yy;gi_wp2_with fail;refine⟨trivial,rfl,?_⟩;refine (CallsIn.inRound l (callsIn_wide.2 (ZX (w2.heap.size+1) w2.heap.size (by omega) rem _ hp))).mono ?_;intro e W3 hP;rcases hP.rd with ⟨pR,rfl,rfl⟩ | ⟨y,rem',pR,rfl,hp',aF,fR,bB⟩
     ·have c0c:=c0.cell;have c1c:=c1.cell;have c0f:=c0.frozen;have c1f:=c1.frozen;have uS:=jq pR;clear pR hP;gi_wp2_with fail;exact MH hS (RdStep.refl S _) fu c0 c1 hB (by rw[HG.out,uS.out];rfl)
     ·have uS:=jq pR;replace c0:=fR _ _ _ (by omega) (by omega) c0;replace c1:=fR _ _ _ (by omega) (by omega) c1;replace c8:=fR _ _ _ (by have:=mr.out;omega) (by have:=mr.out;omega) c8;have I6:=aF S ((hS _).2 (.inr (.inr (.inl rfl)))) ((hS _).2 (.inr (.inr (.inr (.inl rfl)))));have hB':=bB w.heap.size w (by omega) (by omega) hB;have c0c:=c0.cell;have c1c:=c1.cell;have c0f:=c0.frozen;have c1f:=c1.frozen;clear pR hP aF fR bB c8c hp hB;have j6:Np.nj (Np.back a.data.toList) (Np.back b.data.toList)=if Np.cN x y≠0 then Np.cN x y else Np.nj rest rem':=by rw[HG.out,uS.out];rfl
      have iF:=jq j6;clear j6 HG;have cB:=avK ⟨x.toArray⟩ ⟨y.toArray⟩ W3;by_cases hc:Np.cN x y=0
      ·have dV:(Np.cN x y != 0)=false:=by simp[hc]
       have HC:=jq hc;clear hc;gi_wp2_with (refine⟨trivial,rfl,?_⟩;gi_at_call 216;refine (CallsIn.inRound l (callsIn_wide.2 cB)).mono ?_;rintro e w' ⟨rfl,rfl⟩);refine⟨S,I6,λ_ e=>.inl e,λk e=>by have:=fu k e;have:=I6.size;omega,hS,c0,c1,c8,⟨rem',hp',λr hr=>?_⟩,hB'⟩
       have:r=rest:=List.append_cancel_left (hr.symm.trans HR.out.symm)
       rw[iF.out,Qc (λh=>h HC.out),this]
      ·have dV:(Np.cN x y != 0)=true:=by simpa using hc
       have HC:=jq hc;clear hc;gi_wp2_with (refine⟨trivial,rfl,?_⟩;gi_at_call 216;refine (CallsIn.inRound l (callsIn_wide.2 cB)).mono ?_;rintro e w' ⟨rfl,rfl⟩);exact MH hS I6 fu c0 c1 hB' (by rw[iF.out,Qb HC.out])
    case done=>
     rintro D S W hD ft aV ⟨hS,c0,c1,c8,⟨rem,hp,BL⟩,hB⟩ hK;clear da b0 b1 b8 yy;have c0c:=c0.cell;have c1c:=c1.cell;have c0f:=c0.frozen;have c1f:=c1.frozen;have rI:Np.nj (Np.back a.data.toList) (Np.back b.data.toList) = -1:=by rw[BL [] (by simp)];rfl
     have HE:=jq rI;have rB:w.heap.size≠D:=λe=>ft ((hS _).2 (.inl e.symm));have rC:w.heap.size+1≠D:=λe=>ft ((hS _).2 (.inr (.inl e.symm)));have Ht:w.heap.size<=D:=by have:=eM.size;omega
     clear rI BL hp c8;gi_wp2;have hK':((W.setCell ⟨w.heap.size,0,none⟩ (.int .i64 (-1))).setCell ⟨w.heap.size+1,0,none⟩ (.int .i64 0)).heap[D]?=some (.deferred (some [])):=
      (wQ _ _ _ _ (by simpa using rC.symm)).trans ((wQ _ _ _ _ (by simpa using rB.symm)).trans hK)
     have d0:=(pt (cn (c0.set (.int .i64 (-1))) (p:=⟨w.heap.size+1,0,none⟩) (by simp) (.int .i64 0)) rB (.deferred none)).cell;have d1:=(pt ((cn c1 (p:=⟨w.heap.size,0,none⟩) (by simp) (.int .i64 (-1))).set (.int .i64 0)) rC (.deferred none)).cell;exact oC hK' (v:=.tuple #[.int .i64 (-1),.int .i64 0]) (by simp[results,results137,go_sem,d0,d1]) ⟨by rw[HV.out,HE.out],oz ((hB.setCell (bQ _) _).setCell (by simp) _) Ht _⟩
    case stop=>
     rintro D c pre S W hD ft aV iV ⟨rfl,hS,c0,c1,hB⟩ hK;clear da b0 b1 b8 yy;have rB:w.heap.size≠D:=λe=>ft ((hS _).2 (.inl e.symm));have rC:w.heap.size+1≠D:=λe=>ft ((hS _).2 (.inr (.inl e.symm)));have Ht:w.heap.size<=D:=by have:=eM.size;omega
     gi_wp2;have d0:=(pt c0 rB (.deferred none)).cell;have d1:=(pt c1 rC (.deferred none)).cell;exact oC hK (v:=.tuple #[.int .i64 (Np.nj (Np.back a.data.toList) (Np.back b.data.toList)),.int .i64 0]) (by simp[results,results137,go_sem,d0,d1]) ⟨by rw[HV.out],oz hB Ht _⟩
end D
section
open Go.RowKit
def cmpVal(a b:List UInt8):Value:=if Np.aG a&&Np.aG b then .tuple #[.int .i64 (Np.aI a b),.int .i64 0] else .tuple #[.int .i64 0,.int .i64 11]
theorem compare_any(a b:ByteArray)(ha:a.size<=140737488355328)(hb:b.size<=140737488355328)(w:World) :
 Calls prog 137 #[.string a,.string b] w (aOJ w.heap.size w (cmpVal a.data.toList b.data.toList)):=
 (D.compare_any a b ha hb w).mono λ_ _ h=>⟨h.1,h.2.low⟩
end
end Go.Proofs.YtfnopgdcaanaiaaGreatDoor
