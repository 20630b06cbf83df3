/- Parts of the proof. No condition. -/
import Derived.Lib.Hide
import Derived.Below
import Derived.RangeFuncRecord
import Derived.Laws.Strings
import Derived.WalkKit
import Derived.WalkSpells
import Derived.WalkLawsBesides
import Derived.Deep.QuietTactic
import Derived.BigQuiet
import Derived.Deep.Draws
import Derived.BigGuardPart
import Derived.StillTailTactics
import Derived.Deep.Light
import GoSem.Op.String
import Derived.Test.YtfnopgdcaanaiaaGreatDoorProg
import Derived.RangeFuncSeq
import Derived.RangeFuncBox
import Derived.RangeFuncNested
import Derived.RangeFuncBound
import Derived.RangeFuncCalls
import Derived.RangeFuncLeaves
import Derived.Shelf.Abstract
import Derived.Shelf.RegionOpen
import Derived.OwnWalkIn
import Derived.TacticsInMore
import Derived.LoopNIn
import Derived.LoopIn
set_option linter.all false
set_option maxRecDepth 100000
set_option maxHeartbeats 8000000
namespace Go.Proofs.YtfnopgdcaanaiaaGreatDoor
open Go.Proofs.Tryz
section
open Go.RowKit
theorem jq{p:Prop}(h:p):Hid p:=Lib.hid h
theorem cl{B:Nat}{w w':World}(h:Below B w w'){b o:Nat}(hb:b<B):w'.cell? ⟨b,o,none⟩=w.cell? ⟨b,o,none⟩:=h.cell hb
theorem aQ.{u}{α:Type u}{l:List α}{i:Nat}(h:i<l.length):l[i]?=some l[i]:=List.getElem?_eq_getElem h
theorem bQ(n:Nat):n≤n:=Nat.le_refl n
theorem cQ.{u}{α:Type u}{i:Nat}{a:α}{l:List α}:l[i]?=some a↔∃ h:i<l.length,l[i]=a:=List.getElem?_eq_some_iff
theorem dQ(b:ByteArray):b.toList=b.data.toList:=ByteArray.toList_eq b
theorem eQ.{u}{α:Type u}{i:Nat}{b:α}{xs:Array α}:xs[i]?=some b↔∃ h:i<xs.size,xs[i]=b:=Array.getElem?_eq_some_iff
theorem fQ.{u}{α:Type u}{i:Nat}{l:List α}(h:i<l.length):l.take (i+1)=l.take i++[l[i]]:=List.take_succ_eq_append_getElem h
theorem gQ.{u}{α:Type u}{l:List α}{i:Nat}{a:α}(e:l[i]?=some a):a∈l:=List.mem_of_getElem? e
theorem Qh.{u}{α:Type u}{a:α}:¬a∈([]:List α):=List.not_mem_nil
theorem iQ{w w':World}{a:Addr}(h:w'.heap[a.block]?=w.heap[a.block]?):w'.cell? a=w.cell? a:=World.cell?_of_block h
theorem jQ(n:Nat):0≤n:=Nat.zero_le n
theorem kQ.{u}{α:Type u}{i:Nat}{l:List α}(h:l.length≤i):l.take i=l:=List.take_of_length_le h
theorem lQ{n m k:Nat}:n<m→m≤k→n<k:=Nat.lt_of_lt_of_le
theorem mQ.{u}{α:Type u}(y:α){a:α}{l:List α}:a∈l→a∈y::l:=List.mem_cons_of_mem y
theorem nQ.{u}{α:Type u}{a:α}{l:List α}:a∈l↔∃ (i:Nat) (h:i<l.length),l[i]=a:=List.mem_iff_getElem
theorem oQ.{u}{α:Type u}{l₁ l₂:List α}{i:Nat}:l₁.length≤i→(l₁++l₂)[i]?=l₂[i-l₁.length]?:=List.getElem?_append_right
theorem pQ.{u}{α:Type u}{xs:Array α}{i:Nat}(h:i<xs.size):xs[i]?=some xs[i]:=Array.getElem?_eq_getElem h
theorem rQ.{u}{α:Type u}{l:List α}:l.length=0→l=[]:=List.eq_nil_of_length_eq_zero
theorem sQ.{u}{α:Type u}{i:Nat}{l:List α}(h:i<l.length):l.drop i=l[i]::l.drop (i+1):=List.drop_eq_getElem_cons h
theorem tQ{p:Prop}[Decidable p]:¬p→decide p=false:=decide_eq_false
theorem uQ{p:Prop}[Decidable p]:p→decide p=true:=decide_eq_true
theorem vQ(B:Nat)(w:World):Below B w w:=Below.refl B w
theorem wQ(w:World)(a:Addr)(u:Value)(k:Nat)(h:k≠a.block):(w.setCell a u).heap[k]?=w.heap[k]?:=Below.heap_setCell w a u k h
theorem xQ(w:World)(a b:Addr)(v:Value)(h:a≠b):(w.setCell a v).cell? b=w.cell? b:=World.cell?_setCell_other w a b v h
theorem yQ{n m k:Nat}:n≤m→m≤k→n≤k:=Nat.le_trans
theorem zQ{r k:Nat}{o:Obj}{w:World}(h:k≠r):(w.putObj r o).heap[k]?=w.heap[k]?:=World.putObj_heap_other h
theorem Qa{p:Prop}[Decidable p]:(decide p=true)=p:=decide_eq_true_eq
theorem Qb.{u}{c:Prop}{h:Decidable c}(hc:c){α:Sort u}{t e:α}:ite c t e=t:=if_pos hc
theorem Qc.{u}{c:Prop}{h:Decidable c}(hn:¬c){α:Sort u}{t e:α}:ite c t e=e:=if_neg hn
theorem Qd.{u,v}{α:Sort u}{β:Sort v}{a b:α}(f:α->β)(h:a=b):f a=f b:=congrArg f h
def bq(w:World):Type:={ x:World // Below w.heap.size w x }
def bq.w{w:World}(g:bq w):World:=g.1
theorem bq.below{w:World}(g:bq w):Below w.heap.size w g.w:=g.2
instance (w:World):Nonempty (bq w):=⟨⟨w,vQ _ _⟩⟩
theorem bq.cell{w:World}(g:bq w)(p:Addr)(h:p.block<w.heap.size):g.w.cell? p=w.cell? p:=g.2.cell h
theorem bq.frozen{w:World}(g:bq w)(p:Addr)(h:p.block<w.heap.size):g.w.frozen? p=w.frozen? p:=g.2.frozen h
theorem bq.size{w:World}(g:bq w):w.heap.size<=g.w.heap.size:=g.2.size
def vZ(w:World)(w':World):Prop:=∃ g:bq w,w'=g.w
theorem vZ.of{w w':World}(h:Below w.heap.size w w'):vZ w w':=⟨⟨w',h⟩,rfl⟩
theorem Calls.grow_of{P:Program}{f:FuncId}{args:Array Value}{w:World}{g:bq w}{v:Value}
 (h:Calls P f args g.w λe w'=>e = .returned v/\Below g.w.heap.size g.w w'):Calls P f args g.w λe w''=>e = .returned v/\∃ g':bq w,w''=g'.w:=
 h.mono λ_ w' ⟨he,hm⟩=>⟨he,⟨w',g.2.trans (hm.mono g.2.size)⟩,rfl⟩
section
variable {P:Program}
theorem fG{id:Nat}{Q:Exit->Act->World->Prop}{a:Act}{w:World}{l:List Oper}(hm:P.follows .mixedOrders=true)(hB:Region.lexB .any l.toArray=true)
 (h:wpQuiet P l.toArray (λw'=>∃ g:bq w,w'=g.w) (λa'=>∀ w',(∃ g:bq w,w'=g.w)->Q .normal a' w') l a):(Code.region id l.toArray true).wp P Q a w:=
 wp_region_quiet (C:=λw'=>∃ g:bq w,w'=g.w) hm hB ⟨⟨_,(vQ w.heap.size w).drew⟩,rfl⟩ (by simpa using h)
end
theorem qJ{W w1:World}(hb:Below W.heap.size W w1):(∀ b o,b<W.heap.size->w1.cell? ⟨b,o,none⟩=W.cell? ⟨b,o,none⟩)/\(∀ b o,b<W.heap.size->w1.frozen? ⟨b,o,none⟩=W.frozen? ⟨b,o,none⟩):=
 ⟨λb o h=>hb.cell (p:=⟨b,o,none⟩) h,λb o h=>hb.frozen (p:=⟨b,o,none⟩) h⟩
theorem ae{a b:Bool}(h:a=b):Ending.returned (.bool a) = .returned (.bool b):=by rw[h]
theorem iv{k:IntKind}{a b:Int}(h:a=b):Ending.returned (.int k a) = .returned (.int k b):=by rw[h]
theorem aU(s:ByteArray):s.data.toList.length=s.size:=rfl
theorem uF(s:ByteArray)(k:Nat)(h:k<s.size):s.data.toList[k]?=some s[k]:=by
 rw[aQ (by rw[aU];exact h)];rfl
theorem yp(s:ByteArray)(h:0<s.size):s.data.toList.head?=some s[0]:=by
 rw[List.head?_eq_getElem?];exact uF s 0 h
theorem B5(s:ByteArray)(h:s.size - 1<s.size):s.data.toList.getLast?=some s[s.size - 1]:=by
 rw[List.getLast?_eq_getElem?,aU];exact uF s _ h
theorem GK(s:ByteArray)(k:Nat)(h:k<s.size):s.data.toList.take (k+1)=s.data.toList.take k ++ [s[k]]:=by
 rw[fQ (by simpa using h)];rfl
theorem CC(s:ByteArray)(k:Nat)(h:s.size<=k):s.data.toList.take k=s.data.toList:=kQ (by rw[aU];exact h)
theorem mK(c:UInt8)(n:Nat)(hn:n<256):(c == UInt8.ofNat n)=decide ((c.toNat:Int)=n):=by
 rw[Bool.eq_iff_iff];simp only[beq_iff_eq,Qa];constructor
 ·rintro rfl;simp;omega
 ·intro h;apply UInt8.toNat_inj.1;simp;omega
theorem vS(c:UInt8):0<=(c.toNat:Int)/\(c.toNat:Int)<=255:=by have:=UInt8.toNat_lt c;omega
theorem kL{s t:ByteArray}(h:s.data.toList=t.data.toList):s=t:=by
 cases s;cases t;simp only at h |-;congr 1;exact Array.toList_inj.1 h
theorem Ez(s:ByteArray)(i j:Nat):(s.extract i j).data.toList=(s.data.toList.take j).drop i:=by
 rw[ByteArray.data_extract];simp[Array.toList_extract,List.extract_eq_take_drop,List.drop_take]
theorem AT(s:ByteArray)(i:Nat):(s.extract i s.size).data.toList=s.data.toList.drop i:=by
 rw[Ez,kQ (by rw[aU];exact bQ _)]
theorem AU(s:ByteArray)(j:Nat):(s.extract 0 j).data.toList=s.data.toList.take j:=by rw[Ez];rfl
theorem Ow{P:Program}{id:Nat}{Q:Exit->Act->World->Prop}{a:Act}{w:World}{l:List Oper}(n:Nat)(hm:P.follows .mixedOrders=true)(hB:Region.lexTailB .any l.toArray n=true)
 (h:wpStill P l.toArray w.drew (λa'=>wpList P l.toArray Q (l.drop n) a' w.drew) (l.take n) a):(Code.region id l.toArray true).wp P Q a w:=wp_region_still_tail n hm hB h
theorem Calls.still_same{P:Program}{f:FuncId}{args:Array Value}{w:World}{v:Value}(h:Calls P f args w λe w'=>e = .returned v/\w=w'):Calls P f args w λe w''=>e = .returned v/\w''=w:=
 h.mono λ_ _ ⟨he,hw⟩=>⟨he,hw.symm⟩
def ag(w:World)(b o:Nat)(e:List Value):Prop:=∀ j v,e[j]?=some v->w.cell? ⟨b,o+j,none⟩=some v
theorem ag.keep{w w':World}{b o:Nat}{e:List Value}{B:Nat}(h:ag w b o e)(hb:Below B w w')(hB:b<B):ag w' b o e:=
 λj v hj=>(hb.cell (p:=⟨b,o+j,none⟩) hB).trans (h j v hj)
def SlR{α:Type}(R:World->Nat->List Value->α->Prop)(sz:Nat)(w:World)(B:Nat)(v:Value)(xs:List α):Prop:=
 ∃ (A:Option Addr) (c:Nat),v = .slice A xs.length c/\xs.length<=c/\xs.length<=140737488355328/\∀ i x,xs[i]?=some x->∃ b o e,A=some ⟨b,o,none⟩/\b<B/\e.length=sz/\ag w b (o+i * sz) e/\R w B e x
def cY{α:Type}(R:World->Nat->List Value->α->Prop):Prop:=∀ w w' B e x,R w B e x->Below B w w'->R w' B e x
theorem SlR.keep{α:Type}{R:World->Nat->List Value->α->Prop}{sz:Nat}{w w':World}{B:Nat}{v:Value}{xs:List α}(hR:cY R)(h:SlR R sz w B v xs)(hb:Below B w w'):SlR R sz w' B v xs:=by
 obtain⟨A,c,hv,hc,hl,he⟩:=h;refine⟨A,c,hv,hc,hl,λi x hx=>?_⟩;obtain⟨b,o,e,hA,hB,bK,hce,hr⟩:=he i x hx;exact⟨b,o,e,hA,hB,bK,hce.keep hb hB,hR _ _ _ _ _ hr hb⟩
def dw{α:Type}(R:World->Nat->List Value->α->Prop):Prop:=∀ w B B' e x,R w B e x->B<=B'->R w B' e x
theorem SlR.more{α:Type}{R:World->Nat->List Value->α->Prop}{sz:Nat}{w:World}{B B':Nat}{v:Value}{xs:List α}(hR:dw R)(h:SlR R sz w B v xs)(hB:B<=B'):SlR R sz w B' v xs:=by
 obtain⟨A,c,hv,hc,hl,he⟩:=h;refine⟨A,c,hv,hc,hl,λi x hx=>?_⟩;obtain⟨b,o,e,hA,hb,bK,hce,hr⟩:=he i x hx;exact⟨b,o,e,hA,by omega,bK,hce,hR _ _ _ _ _ hr hB⟩
end
namespace Np
def oJ(c:UInt8):Bool:=97<=c&&c<=122
def l4(c:UInt8):Bool:=48<=c&&c<=57
def lv(c:UInt8):Bool:=oJ c||l4 c||c == 45
def bS(l:List UInt8):Bool:=decide (1<=l.length)&&decide (l.length<=12)&&!(l.head? == some 45)&&!(l.getLast? == some 45)&&l.all lv
def Ed(l:List UInt8)(c:UInt8)(r:Int):Prop:=(r = -1/\c∉l)\/∃ a b,l=a++c::b/\c∉b/\r=a.length
def aO:List UInt8->List (List UInt8)
 | []=>[[]]
 | c::r=>if c=46 then []::aO r else match aO r with
   | x::xs=>(c::x)::xs
   | []=>[[c]]
theorem oS(l:List UInt8):aO l≠[]:=by
 cases l with
 | nil=>simp[aO]
 | cons c r=>
  unfold aO;split
  ·simp
  ·split <;> simp
theorem vN{l:List UInt8}(h:46∉l):aO l = [l]:=by
 induction l with
 | nil=>rfl
 | cons c r ih=>
  have h1:c≠46:=λe=>h (by simp[e]);have h2:46∉r:=λe=>h (by simp[e]);unfold aO;rw[Qc h1,ih h2]
theorem zA(a b:List UInt8):aO (a++46::b)=aO a++aO b:=by
 induction a with
 | nil=>simp[aO]
 | cons c r ih=>
  rw[List.cons_append];by_cases h:c=46
  ·rw[aO,Qb h,aO,Qb h,ih];rfl
  ·rw[aO,Qc h,aO,Qc h,ih];have hne:=oS r
   cases hr:aO r with
   | nil=>exact absurd hr hne
   | cons x xs=>rfl
def back(l:List UInt8):List (List UInt8):=if l = [46] then [] else (aO l).reverse
def eE:List (List UInt8)->Nat->Bool->Bool
 | [],_,_=>true
 | x::xs,n,wild=>if wild||decide (8<n+1) then false else if x = [42] then eE xs (n+1) true else if bS x then eE xs (n+1) false else false
def aC(l:List UInt8):Bool:=if l = [46] then true else if 60<l.length then false else eE (aO l).reverse 0 false
theorem GF{l y:List UInt8}(h:y∈aO l):y.length<=l.length:=by
 induction l generalizing y with
 | nil=>simp[aO] at h;subst h;simp
 | cons c r ih=>
  unfold aO at h;split at h
  ·rcases List.mem_cons.1 h with e | e
   ·subst e;simp
   ·have:=ih e;simp;omega
  ·split at h
   ·rename_i x xs hx;rcases List.mem_cons.1 h with e | e
    ·subst e;have:=ih (y:=x) (by rw[hx];simp);simp;omega
    ·have:=ih (y:=y) (by rw[hx];simp[e]);simp;omega
   ·simp at h;subst h;simp
theorem AL{l y:List UInt8}(h:y∈back l):y.length<=l.length:=by
 unfold back at h;split at h
 ·cases h
 ·exact GF (List.mem_reverse.1 h)
def mv(c:UInt8):Bool:=oJ c||l4 c||c == 32
def iY(l:List UInt8):Bool:=decide (1<=l.length)&&decide (l.length<=40)&&!(l.head? == some 32)&&!(l.getLast? == some 32)&&l.all mv
def dL(l:List UInt8):Bool:=l.head? == some 42
structure Rule where
 text:Int
 leastN:Int
 mostN:Int
 leastM:Int
 mostM:Int
 even:Bool
 single:Bool
 wild:Bool
structure Datum where
 text:List UInt8
 n:Int
 m:Int
deriving DecidableEq
def tU(k:Int)(l:List UInt8):Bool:=if k=1 then aC l&&!dL l else if k=2 then aC l else if k=3 then iY l else l == []
def je(r:Rule)(d:Datum):Bool:=
 (decide (r.leastN<=d.n)&&decide (d.n<=r.mostN))&&(decide (r.leastM<=d.m)&&decide (d.m<=r.mostM))&&!(r.even&&(d.n.tmod 2 != 0))&&tU r.text d.text
def bV(a b:List UInt8):Int:=if Go.Op.bytesLess a b then -1 else if a=b then 0 else 1
def bX(a b:Int):Int:=if a<b then -1 else if b<a then 1 else 0
def og(a b:Datum):Int:=if bV a.text b.text≠0 then bV a.text b.text else if bX a.n b.n≠0 then bX a.n b.n else bX a.m b.m
def rules:List Rule:=[⟨0,0,0,0,0,false,false,false⟩,⟨0,1,1000000,0,0,false,false,true⟩,⟨1,0,0,0,0,false,false,false⟩,⟨1,0,0,0,0,false,true,false⟩,⟨0,0,65535,0,100000,false,true,false⟩,
 ⟨3,0,0,0,0,false,false,true⟩,⟨0,1,1000000,1,3,false,false,false⟩,⟨0,1,1000000,1,3,false,false,false⟩,⟨2,2,510,0,0,true,false,true⟩]
def bH(k:Int):Rule:=rules.getD k.toNat ⟨0,0,0,0,0,false,false,false⟩
structure DSet where
 name:List UInt8
 type:Int
 life:Int
 data:List Datum
deriving DecidableEq
def ij(r:Rule):Option Datum->List Datum->Bool
 | _,[]=>true
 | p,d::ds=>je r d&&(match p with | none=>true | some q=>decide (og q d<0))&&ij r (some d) ds
def cW(s:DSet):Bool:=
 aC s.name&&(decide (1<=s.type)&&decide (s.type<=8))&&(decide (0<=s.life)&&decide (s.life<=100000))&&(decide (1<=s.data.length)&&decide (s.data.length<=8)) &&
 !((bH s.type).single&&decide (s.data.length≠1))&&!(dL s.name&&!(bH s.type).wild)&&ij (bH s.type) none s.data
theorem J3{r:Rule}{p:Option Datum}{ds:List Datum}{j:Nat}{d:Datum}(hd:ds[j]?=some d)(h:je r d=false):ij r p (ds.drop j)=false:=by
 rw[sQ (cQ.1 hd).1,(cQ.1 hd).2];simp[ij,h]
theorem J4{r:Rule}{ds:List Datum}{d:Datum}(hd:ds[0]?=some d)(h:je r d=true):ij r (ds.take 0).getLast? (ds.drop 0)=ij r (ds.take 1).getLast? (ds.drop 1):=by
 cases ds with
 | nil=>simp at hd
 | cons x r=>simp at hd;subst hd;simp[ij,h]
theorem J5{r:Rule}{ds:List Datum}{j:Nat}{q d:Datum}(hq:ds[j]?=some q)(hd:ds[j+1]?=some d)(h:je r d=true) :
 ij r (ds.take (j+1)).getLast? (ds.drop (j+1))=if og q d<0 then ij r (ds.take (j+1+1)).getLast? (ds.drop (j+1+1)) else false:=by
 have h1:=(cQ.1 hq);have h2:=(cQ.1 hd);rw[sQ h2.1,h2.2,fQ h1.1,h1.2,fQ h2.1,h2.2];simp only[List.getLast?_append,List.getLast?_singleton,Option.some_or,ij,h];split <;> rename_i hc <;> simp[hc]
end Np
section
open Go.RowKit
theorem Mg(c:UInt8):Np.lv c=decide ((97<=(c.toNat:Int)/\(c.toNat:Int)<=122)\/(48<=(c.toNat:Int)/\(c.toNat:Int)<=57)\/(c.toNat:Int)=45):=by
 have h:=mK c 45 (by decide);unfold Np.lv Np.oJ Np.l4;rw[show (45:UInt8)=UInt8.ofNat 45 from rfl,h,Bool.eq_iff_iff];simp[UInt8.le_iff_toNat_le];omega
theorem VP(s:ByteArray)(h:(s.size:Int)<1):Np.bS s.data.toList=false:=by
 have:¬ 1<=s.size:=by omega
 simp[Np.bS,this]
theorem VQ(s:ByteArray)(h:12<(s.size:Int)):Np.bS s.data.toList=false:=by
 have:¬ s.size<=12:=by omega
 simp[Np.bS,this]
theorem VR(s:ByteArray)(h0:0<s.size)(h:(s[0].toNat:Int)=45):Np.bS s.data.toList=false:=by
 have e:=mK s[0] 45 (by decide);rw[uQ (by simpa using h)] at e;have e2:s[0]=(45:UInt8):=by simpa using e
 simp[Np.bS,yp s h0,e2]
theorem VS(s:ByteArray)(h0:s.size - 1<s.size)(h:(s[s.size - 1].toNat:Int)=45):Np.bS s.data.toList=false:=by
 have e:=mK s[s.size - 1] 45 (by decide);rw[uQ (by simpa using h)] at e;have e2:s[s.size - 1]=(45:UInt8):=by simpa using e
 simp[Np.bS,B5 s h0,e2]
theorem VT(s:ByteArray)(k:Nat)(hk:k<s.size)(h:Np.lv s[k]=false):Np.bS s.data.toList=false:=by
 have:s.data.toList.all Np.lv=false:=by
  rw[List.all_eq_false];exact⟨s[k],by rw[<-cQ.1 (uF s k hk) |>.2];exact List.getElem_mem _,by simp[h]⟩
 simp[Np.bS,this]
theorem VU(s:ByteArray)(h1:1<=s.size)(h2:s.size<=12)(h3:¬ (s[0].toNat:Int)=45)(h4:¬ (s[s.size - 1].toNat:Int)=45)(h5:s.data.toList.all Np.lv=true):Np.bS s.data.toList=true:=by
 have e:=mK s[0] 45 (by decide);have e':=mK s[s.size - 1] 45 (by decide);rw[tQ (by simpa using h3)] at e;rw[tQ (by simpa using h4)] at e';have e2:¬ s[0]=(45:UInt8):=by simpa using e
 have e3:¬ s[s.size - 1]=(45:UInt8):=by simpa using e'
 simp[Np.bS,B5 s (by omega),yp s (by omega),e2,e3,h5,h1,h2]
theorem El(s:ByteArray)(k:Nat)(h:k<s.size)(p:UInt8->Bool)(h1:(s.data.toList.take k).all p=true)(h2:p s[k]=true):(s.data.toList.take (k+1)).all p=true:=by
 rw[GK s k h,List.all_append,h1];simp[h2]
theorem VW(s:ByteArray)(hs:s.size<=140737488355328)(w:World) :
 Calls prog 245 #[.string s] w λe w'=>e = .returned (.bool (Np.bS s.data.toList))/\w=w':=by
 go_enter func245,ntmps245;go_wp2
 ·go_ret;exact⟨ae (VP s ‹_›).symm,rfl⟩
 ·go_ret;exact⟨ae (VQ s ‹_›).symm,rfl⟩
 ·go_ret;exact⟨ae (VR s ‹_› ‹_›).symm,rfl⟩
 ·have h:((s[s.size - 1].toNat:Int) == 45)=true:=by assumption
  go_ret;exact⟨ae (VS s (by omega) (by simpa using h)).symm,rfl⟩
 ·have h1:1<=(s.size:Int):=by assumption
  have h2:(s.size:Int)<=12:=by assumption
  have h3:¬ (s[0].toNat:Int)=45:=by assumption
  have h4:((s[s.size - 1].toNat:Int) == 45)=false:=by assumption
  have H4:=jq h4;clear h4;have H3:=jq h3;go_loop [28] (λi=>∃ k:Nat,k<=s.size/\i = .int .i64 k/\(s.data.toList.take k).all Np.lv=true) (λi=>s.size - (intOf i).toNat)
  case atStart=>exact⟨0,jQ _,rfl,rfl⟩
  case round=>
   obtain⟨k,hk,rfl,ha⟩:=hrel;have HA:=jq ha;clear ha;by_cases aa:k<s.size
   ·have hb:=vS s[k];go_wp2
    all_goals first
     | (have hne:((s[k].toNat:Int) != 45)=true:=by assumption
        have yI:=bne_iff_ne.1 hne;go_ret;exact⟨ae (VT s k aa (by rw[Mg];exact tQ (by omega))).symm,rfl⟩)
     | (have hl:Np.lv s[k]=true:=by
         rw[Mg];refine uQ ?_
         first
          | omega
          | (have hne:((s[k].toNat:Int) != 45)=false:=by assumption
             have yI:(s[k].toNat:Int)=45:=by simpa using hne
             omega)
        go_round
        case rel=>exact⟨k+1,by omega,by go_num,El s k aa _ HA.out hl⟩
        case measure=>simp[intOf] <;> omega)
   ·go_wp2;go_ret;exact⟨ae (VU s (by omega) (by omega) H3.out (by simpa using H4.out) (by have:=HA.out;rwa [CC s k (by omega)] at this)).symm,rfl⟩
theorem Zl(c:Int)(h0:0<=c)(h1:c<=255)(x:UInt8):x=UInt8.ofNat c.toNat↔(x.toNat:Int)=c:=by
 have h:=mK x c.toNat (by omega);rw[Bool.eq_iff_iff] at h;simp only[beq_iff_eq,Qa] at h;rw[h];omega
theorem Wj(s:ByteArray)(c:UInt8)(h:c∉s.data.toList.drop 0):Np.Ed s.data.toList c (-1):=.inl ⟨rfl,by simpa using h⟩
theorem Wk(s:ByteArray)(c:UInt8)(k:Nat)(hk:k<s.size)(h:c∉s.data.toList.drop (k+1))(hc:s[k]=c):Np.Ed s.data.toList c (k:Int):=by
 refine .inr ⟨s.data.toList.take k,s.data.toList.drop (k+1),?_,h,?_⟩
 ·subst hc;rw[show s[k]=s.data.toList[k]'(by rw[aU];exact hk) from rfl,<-sQ,List.take_append_drop]
 ·simp;have:=aU s;simp at this;omega
theorem R6(s:ByteArray)(c:UInt8)(k:Nat)(hk:k<s.size)(h:c∉s.data.toList.drop (k+1))(hc:¬ s[k]=c):c∉s.data.toList.drop k:=by
 rw[sQ (by rw[aU];exact hk)];intro hm;rcases List.mem_cons.1 hm with e | e
 ·exact hc e.symm
 ·exact h e
def G7(s:ByteArray)(c:UInt8)(w:World)(e:Ending)(w':World):Prop:=∃ r:Int,Np.Ed s.data.toList c r/\e = .returned (.int .i64 r)/\w=w'
theorem Wl(s:ByteArray)(hs:s.size<=140737488355328)(c:Int)(h0:0<=c)(h1:c<=255)(w:World) :
 Calls prog 345 #[.string s,.int .u8 c] w (G7 s (UInt8.ofNat c.toNat) w):=by
 go_enter func345,ntmps345;go_wp2;go_loop [5] (λi=>∃ k:Int,-1<=k/\k<s.size/\i = .int .i64 k/\Hid (UInt8.ofNat c.toNat∉s.data.toList.drop (k+1).toNat)) (λi=>(intOf i+1).toNat)
 case atStart=>exact⟨_,by omega,by omega,rfl,jq (by rw[List.drop_eq_nil_of_le (by rw[aU];omega)];simp)⟩
 case round=>
  obtain⟨k,bO,bM,rfl,H⟩:=hrel;by_cases aa:0<=k
  ·obtain⟨j,rfl⟩:=Int.eq_ofNat_of_zero_le aa;have hj:j<s.size:=by omega
   have hb:=vS s[j];have hd:=Zl c h0 h1 s[j];have HD:=jq hd;clear hd;go_wp2
   all_goals first
    | (have he:((s[j].toNat:Int) == c)=true:=by assumption
       go_ret;exact⟨j,Wk s _ j hj (by simpa using H.out) (HD.out.2 (by simpa using he)),rfl,rfl⟩)
    | (have he:((s[j].toNat:Int) == c)=false:=by assumption
       go_round
       case rel=>exact⟨(j:Int) - 1,by omega,by omega,rfl,jq (by have:=R6 s _ j hj (by simpa using H.out) (λe=>by have:=HD.out.1 e;simp[this] at he);simpa using this)⟩
       case measure=>simp[intOf] <;> omega)
  ·obtain rfl:k = -1:=by omega
   go_wp2;go_ret;exact⟨-1,Wj s _ (by simpa using H.out),rfl,rfl⟩
theorem Gg(s:ByteArray)(hs:s.size<=140737488355328)(c:Int)(h0:0<=c)(h1:c<=255)(w:World) :
 Calls prog 298 #[.string s,.int .u8 c] w (G7 s (UInt8.ofNat c.toNat) w):=by
 go_enter func298,ntmps298;go_wp2_with (go_at_call 345;refine (Wl _ hs _ h0 h1 _).mono ?_;rintro e w' ⟨r,hr,rfl,rfl⟩);go_ret;exact⟨r,hr,rfl,rfl⟩
end
namespace D
open Go.RowKit
structure Below(B:Nat)(w w':World):Prop where
 os:w'.os=w.os
 tape:w'.tape=w.tape
 output:w'.output=w.output
 size:w.heap.size<=w'.heap.size
 block:∀ k,k<B->w'.heap[k]?=w.heap[k]?
 drawn:w.drawn<=w'.drawn
theorem Below.low{B:Nat}{w w':World}(h:Below B w w'):Go.RowKit.Below B w w':=⟨h.os,h.tape,h.output,h.size,h.block⟩
theorem vQ(B:Nat)(w:World):Below B w w:=⟨rfl,rfl,rfl,bQ _,λ_ _=>rfl,bQ _⟩
theorem Below.trans{B:Nat}{a b c:World}(h:Below B a b)(k:Below B b c):Below B a c:=
 ⟨k.os.trans h.os,k.tape.trans h.tape,k.output.trans h.output,yQ h.size k.size,λi hi=>(k.block i hi).trans (h.block i hi),yQ h.drawn k.drawn⟩
theorem Below.mono{B B':Nat}{w w':World}(h:Below B w w')(hB:B'<=B):Below B' w w':=⟨h.os,h.tape,h.output,h.size,λk hk=>h.block k (lQ hk hB),h.drawn⟩
theorem Below.drew{B:Nat}{a w:World}(h:Below B a w):Below B a w.drew:=⟨h.os,h.tape,h.output,h.size,h.block,Nat.le_succ_of_le h.drawn⟩
theorem Below.heap_alloc(w:World)(o:Obj)(k:Nat)(h:k<w.heap.size):(w.alloc o).heap[k]?=w.heap[k]?:=Go.RowKit.Below.heap_alloc w o k h
theorem wQ(w:World)(a:Addr)(u:Value)(k:Nat)(h:k≠a.block):(w.setCell a u).heap[k]?=w.heap[k]?:=Go.RowKit.Below.heap_setCell w a u k h
theorem Below.alloc{B:Nat}{a w:World}(h:Below B a w)(hB:B<=w.heap.size)(o:Obj):Below B a (w.alloc o):=
 h.trans ⟨rfl,rfl,rfl,by simp,λk hk=>Below.heap_alloc _ _ _ (by omega),bQ _⟩
theorem Below.setCell{B:Nat}{a w:World}(h:Below B a w){p:Addr}(hp:B<=p.block)(u:Value):Below B a (w.setCell p u):=
 h.trans ⟨rfl,rfl,rfl,by simp[World.setCell],λk hk=>wQ _ _ _ _ (by omega),bQ _⟩
theorem Below.cell{B:Nat}{w w':World}(h:Below B w w'){p:Addr}(hp:p.block<B):w'.cell? p=w.cell? p:=h.low.cell hp
theorem Below.frozen{B:Nat}{w w':World}(h:Below B w w'){p:Addr}(hp:p.block<B):w'.frozen? p=w.frozen? p:=h.low.frozen hp
structure ItStep(B:Nat)(S:Nat->Prop)(W W':World):Prop where
 os:W'.os=W.os
 tape:W'.tape=W.tape
 output:W'.output=W.output
 size:W.heap.size<=W'.heap.size
 keep:∀ k,k<W.heap.size->(k<B\/S k)->W'.heap[k]?=W.heap[k]?
 drawn:W.drawn<=W'.drawn
structure RdStep(S:Nat->Prop)(W W':World):Prop where
 os:W'.os=W.os
 tape:W'.tape=W.tape
 output:W'.output=W.output
 size:W.heap.size<=W'.heap.size
 keep:∀ k,k<W.heap.size->¬ S k->W'.heap[k]?=W.heap[k]?
 drawn:W.drawn<=W'.drawn
theorem ItStep.refl(B:Nat)(S:Nat->Prop)(W:World):ItStep B S W W:=⟨rfl,rfl,rfl,bQ _,λ_ _ _=>rfl,bQ _⟩
theorem RdStep.refl(S:Nat->Prop)(W:World):RdStep S W W:=⟨rfl,rfl,rfl,bQ _,λ_ _ _=>rfl,bQ _⟩
theorem ItStep.trans{B:Nat}{S:Nat->Prop}{A W C:World}(h:ItStep B S A W)(k:ItStep B S W C):ItStep B S A C:=
 ⟨k.os.trans h.os,k.tape.trans h.tape,k.output.trans h.output,yQ h.size k.size,λi hi hs=>(k.keep i (lQ hi h.size) hs).trans (h.keep i hi hs),yQ h.drawn k.drawn⟩
theorem RdStep.trans{S S':Nat->Prop}{A W C:World}(h:RdStep S A W)(k:RdStep S' W C)(hS:∀ i,S' i->S i\/A.heap.size<=i):RdStep S A C:=
 ⟨k.os.trans h.os,k.tape.trans h.tape,k.output.trans h.output,yQ h.size k.size,λi hi hs=>
  (k.keep i (lQ hi h.size) (λe=>by rcases hS i e with e | e;exact hs e;omega)).trans (h.keep i hi hs),yQ h.drawn k.drawn⟩
theorem RdStep.mono{S S':Nat->Prop}{A W:World}(h:RdStep S A W)(hS:∀ i,S i->S' i):RdStep S' A W:=
 ⟨h.os,h.tape,h.output,h.size,λi hi hs=>h.keep i hi (λe=>hs (hS i e)),h.drawn⟩
theorem ItStep.of_below{B:Nat}{S:Nat->Prop}{A W:World}(h:Below A.heap.size A W):ItStep B S A W:=
 ⟨h.os,h.tape,h.output,h.size,λk hk _=>h.block k hk,h.drawn⟩
theorem RdStep.of_below{S:Nat->Prop}{A W:World}(h:Below A.heap.size A W):RdStep S A W:=
 ⟨h.os,h.tape,h.output,h.size,λk hk _=>h.block k hk,h.drawn⟩
theorem RdStep.below{S:Nat->Prop}{A W:World}{n:Nat}(h:RdStep S A W)(hn:n<=A.heap.size)(hS:∀ k,S k->n<=k):Below n A W:=
 ⟨h.os,h.tape,h.output,h.size,λk hk=>h.keep k (by omega) (λe=>by have:=hS k e;omega),h.drawn⟩
theorem RdStep.setCell{S:Nat->Prop}{A W:World}(h:RdStep S A W){p:Addr}(hp:S p.block\/A.heap.size<=p.block)(u:Value):RdStep S A (W.setCell p u):=
 ⟨h.os,h.tape,h.output,by simpa [World.setCell] using h.size,λk hk hs=>(wQ _ _ _ _ (by rintro rfl;rcases hp with hp | hp;exact hs hp;omega)).trans (h.keep k hk hs),h.drawn⟩
theorem RdStep.alloc{S:Nat->Prop}{A W:World}(h:RdStep S A W)(o:Obj):RdStep S A (W.alloc o):=
 ⟨h.os,h.tape,h.output,yQ h.size (by simp),λk hk hs=>(Below.heap_alloc _ _ _ (lQ hk h.size)).trans (h.keep k hk hs),h.drawn⟩
theorem RdStep.drew{S:Nat->Prop}{A W:World}(h:RdStep S A W):RdStep S A W.drew:=⟨h.os,h.tape,h.output,h.size,h.keep,Nat.le_succ_of_le h.drawn⟩
theorem RdStep.then_below{S:Nat->Prop}{A W C:World}(h:RdStep S A W)(k:Below W.heap.size W C):RdStep S A C:=
 ⟨k.os.trans h.os,k.tape.trans h.tape,k.output.trans h.output,yQ h.size k.size,λi hi hs=>(k.block i (lQ hi h.size)).trans (h.keep i hi hs),yQ h.drawn k.drawn⟩
def eY{β:Type}(B:Nat)(J:β->(Nat->Prop)->World->Prop):Prop:=∀ s S W W',J s S W->ItStep B S W W'->J s S W'
def AH{α:Type}(J Jx:List α->(Nat->Prop)->World->Prop)(pre:List α)(x:α)(S:Nat->Prop)(W:World)(e:Ending)(W':World):Prop:=
 ∃ S':Nat->Prop,RdStep S W W'/\(∀ k,S' k->S k\/W.heap.size<=k)/\(∀ k,S' k->k<W'.heap.size)/\
   ((e = .returned (.bool true)/\J (pre ++ [x]) S' W')\/(e = .returned (.bool false)/\Jx (pre ++ [x]) S' W'))
def sJ{α:Type}(P:Program)(gf:FuncId)(mk:Value->Array Value)(encs:α->Array Value)(xs:List α)(n₀:Nat)(w:World):Prop:=
 ∀ (l:Nat) (J Jx:List α->(Nat->Prop)->World->Prop) (S:Nat->Prop) (W:World),Below n₀ w W->
   eY W.heap.size J->eY W.heap.size Jx->
   (∀ pre x S1 W1,pre ++ [x] <+: xs->J pre S1 W1->(∀ k,S1 k->k<W1.heap.size)->W.heap.size<=W1.heap.size->
     YieldAt Fence.wide 0 P l (encs x) W1 (AH J Jx pre x S1 W1))->
   (∀ k,S k->n₀<=k)->(∀ k,S k->k<W.heap.size)->J [] S W->
   CallsIn Fence.wide 0 P gf (mk (.func (.yield l) #[] #[])) W λe W'=>(∃ v,e = .returned v)/\
    ((∃ S',J xs S' W'/\(∀ k,S' k->S k\/W.heap.size<=k))\/(∃ pre S',pre <+: xs/\Jx pre S' W'/\(∀ k,S' k->S k\/W.heap.size<=k)))
def lI{α:Type}(I:List α->(Nat->Prop)->World->Prop)(Ix:Code->List α->(Nat->Prop)->World->Prop)(xs:List α)(S:Nat->Prop)(W:World):Exit->Act->World->Prop
 | .normal,_,W'=>∃ S',RdStep S W W'/\(∀ k,S' k->S k\/W.heap.size<=k)/\(∀ k,S' k->k<W'.heap.size)/\I xs S' W'
 | .ret,_,W'=>∃ S',RdStep S W W'/\(∀ k,S' k->S k\/W.heap.size<=k)/\(∀ k,S' k->k<W'.heap.size)/\Ix .ret xs S' W'
 | .exit id,_,W'=>∃ S',RdStep S W W'/\(∀ k,S' k->S k\/W.heap.size<=k)/\(∀ k,S' k->k<W'.heap.size)/\Ix (.exit id) xs S' W'
 | _,_,_=>False
theorem ir{B:Nat}{S:Nat->Prop}{W:World}{l:Nat}(o:Obj)(hl:B<=l)(hS:¬ S l):ItStep B S W (W.putObj l o):=
 ⟨rfl,rfl,rfl,by simp,λk _ hk=>zQ (by rintro rfl;rcases hk with hk | hk;omega;exact hS hk),bQ _⟩
theorem rH{B:Nat}{S:Nat->Prop}{W:World}(o:Obj):ItStep B S W (W.alloc o):=
 ⟨rfl,rfl,rfl,by simp,λk hk _=>Below.heap_alloc _ _ _ hk,bQ _⟩
theorem ItStep.weaken{B B':Nat}{S S':Nat->Prop}{W W':World}(h:ItStep B S W W')(hB:B'<=B)(hS:∀ k,S' k->S k):ItStep B' S' W W':=
 ⟨h.os,h.tape,h.output,h.size,λk hk hs=>h.keep k hk (hs.imp (λe=>by omega) (hS k)),h.drawn⟩
theorem GY{α:Type}{P:Program}{g:Operand}{ps:Array Tmp}{assign body:Code}{Q:Exit->Act->World->Prop}{a:Act}{w:World}
 {gf:FuncId} {first captured:Array Value} (hg:a.eval g = .func (.func gf) first captured) (eg:∀ args w,(callFunc gf args).run P w = .ok (.enter gf args) w)
 {mk:Value->Array Value} {encs:α->Array Value} {xs:List α} {n₀:Nat} {w0:World} (fC:∀ y,mk y=first ++ #[y]++captured)
 (hit:sJ P gf mk encs xs n₀ w0) (cn:Below n₀ w0 w) (lU:n₀<=w.heap.size) (fE:∀ x,(encs x).size=ps.size)
 (I:List α->(Nat->Prop)->World->Prop) (Ix:Code->List α->(Nat->Prop)->World->Prop) (A:List α->α->(Nat->Prop)->Act->World->Prop)
 (hI:eY w.heap.size I) (gR:∀ c,eY w.heap.size (Ix c)) (hA:∀ pre x S a' W W',A pre x S a' W->ItStep w.heap.size S W W'->A pre x S a' W')
 (S0:Nat->Prop) (nt:∀ k,S0 k->n₀<=k) (jw:∀ k,S0 k->k<w.heap.size) (h0:I [] S0 w)
 (yd:∀ (l:Nat) (pre:List α) (x:α) (S:Nat->Prop) (W:World),pre ++ [x] <+: xs->I pre S W->(∀ k,S k->k<W.heap.size)->
   assign.wpIn (Fence.wide.inRound l) 0 P (Exit.then (λa₁ W₁=>∃ S',RdStep S W W₁/\(∀ k,S' k->S k\/W.heap.size<=k)/\(∀ k,S' k->k<W₁.heap.size)/\A pre x S' a₁ W₁) (λ_ _ _=>False))
    { tmps:=(ps.zip (encs x)).foldl (λt (p,v)=>t.setIfInBounds p v) a.tmps,defers:=[] } W)
 (yi:∀ (l:Nat) (pre:List α) (x:α) (S:Nat->Prop) (a₁:Act) (W:World),pre ++ [x] <+: xs->A pre x S a₁ W->(∀ k,S k->k<W.heap.size)->
   body.wpIn (Fence.wide.inRound l) 0 P (lI I Ix (pre ++ [x]) S W) a₁ W)
 (kC:∀ (D:Nat) (S:Nat->Prop) (W:World),w.heap.size<=D->¬ S D->(∀ k,S k->S0 k\/w.heap.size<=k)->I xs S W->W.heap[D]?=some (.deferred (some []))->
   Q .normal { a with defers:={ target:=.collected D,args:=#[] } :: a.defers } W)
 (kG:∀ (D:Nat) (c:Code) (pre:List α) (S:Nat->Prop) (W:World),w.heap.size<=D->¬ S D->(∀ k,S k->S0 k\/w.heap.size<=k)->pre <+: xs->Ix c pre S W->W.heap[D]?=some (.deferred (some []))->
   c.wpIn Fence.wide 0 P Q { a with defers:={ target:=.collected D,args:=#[] } :: a.defers } W) :
 (Code.rangeFunc g ps assign body).wpIn Fence.wide 0 P Q a w:=by
 refine wpIn_rangeFunc ?_;intro fn im;show ∃ (l:Nat) (mark:List Deferred) (w₁:World) (d:Deferred) (w₁':World) (f:FuncId) (args:Array Value) (w₂:World),(Instr.enterLoop fn a.tmps ps assign body none).run P w = .ok (l,mark) w₁/\_;obtain⟨rec,ei⟩:∃ rec:LoopState->Option Code->Loop,rec=λst pe=>{ state:=st,pending:=pe,fn,tmps:=a.tmps,params:=ps,assign,body,defers:=w.heap.size }:=⟨_,rfl⟩;obtain⟨W1,ap⟩:∃ W1,(w.alloc (.deferred (some []))).alloc (.loop (rec .ready none))=W1:=⟨_,rfl⟩;have an:W1.heap.size=w.heap.size+2:=by rw[<-ap];simp
 have iL:W1.heap[w.heap.size+1]?=some (.loop (rec .ready none)):=by
  rw[<-ap];have:=World.alloc_heap_new (w.alloc (.deferred (some []))) (.loop (rec .ready none));rwa [World.size_alloc] at this
 have xU:W1.heap[w.heap.size]?=some (.deferred (some [])):=by
  rw[<-ap];exact (Below.heap_alloc _ _ _ (by simp)).trans (World.alloc_heap_new w _)
 have no:I [] S0 W1:=by rw[<-ap];exact hI _ _ _ _ (hI _ _ _ _ h0 (rH _)) (rH _)
 have az:Below n₀ w0 W1:=by
  rw[<-ap];exact cn.trans ((((vQ _ w).alloc (bQ _) _).alloc (by simp) _).mono lU)
 refine⟨w.heap.size+1,[{ target:=.collected w.heap.size,args:=#[] }],W1,{ target:=.fn (.func gf) captured,args:=first ++ #[.func (.yield (w.heap.size+1)) #[] #[]] },W1,gf,
  first ++ #[.func (.yield (w.heap.size+1)) #[] #[]]++captured,W1,?_,?_,?_,?_,λh=>by simp[Fence.wide] at h,?_⟩
 ·rw[<-ap,ei];exact run_enterLoop_outer _ _ _ _ _
 ·simp only[resolve,hg];simp[go_sem]
 ·intro f' _;trivial
 ·simp[invoke,go_sem,eg]
 ·rw[<-fC];have key:=hit (w.heap.size+1)
   (λpre Si W=>∃ S:Nat->Prop,(∀ k,Si k↔S k\/k=w.heap.size+1)/\(¬ S w.heap.size)/\(¬ S (w.heap.size+1))/\(∀ k,S k->S0 k\/w.heap.size<=k)/\I pre S W/\W.heap[w.heap.size+1]?=some (.loop (rec .ready none))/\W.heap[w.heap.size]?=some (.deferred (some [])))
   (λpre Si W=>∃ (S:Nat->Prop) (c:Code),(∀ k,Si k↔S k\/k=w.heap.size+1)/\(¬ S w.heap.size)/\(¬ S (w.heap.size+1))/\(∀ k,S k->S0 k\/w.heap.size<=k)/\Ix c pre S W/\W.heap[w.heap.size+1]?=some (.loop (rec .done (some c)))/\W.heap[w.heap.size]?=some (.deferred (some [])))
   (λk=>S0 k\/k=w.heap.size+1) W1 az ?_ ?_ ?_ ?_ ?_ ?_
  ·refine key.mono ?_;rintro e W2 ⟨⟨v,rfl⟩,(⟨S',⟨S,cB,hD,hL,aV,hi,hl,hk⟩,_⟩ | ⟨pre,S',fD,⟨S,c,cB,hD,hL,aV,hi,hl,hk⟩,_⟩)⟩
   ·refine⟨none,_,by have:=run_endLoop (P:=P) hl (by rw[ei];simp);rw[ei] at this;exact this,?_⟩;exact kC _ S _ (bQ _) hD aV (hI _ _ _ _ hi (ir _ (by omega) hL)) ((zQ (by omega)).trans hk)
   ·refine⟨some c,_,by have:=run_endLoop (P:=P) hl (by rw[ei];simp);rw[ei] at this;exact this,?_⟩;exact kG _ c pre S _ (bQ _) hD aV fD ((gR c) _ _ _ _ hi (ir _ (by omega) hL)) ((zQ (by omega)).trans hk)
  ·rintro pre Si A1 B1 ⟨S,cB,hD,hL,aV,hi,hl,hk⟩ aA;have aa:w.heap.size+1<A1.heap.size:=(eQ.1 hl).1;exact⟨S,cB,hD,hL,aV,hI _ _ _ _ hi (aA.weaken (by omega) (λk e=>(cB k).2 (.inl e))),(aA.keep _ aa (.inl (by omega))).trans hl,(aA.keep _ (by omega) (.inl (by omega))).trans hk⟩
  ·rintro pre Si A1 B1 ⟨S,c,cB,hD,hL,aV,hi,hl,hk⟩ aA;have aa:w.heap.size+1<A1.heap.size:=(eQ.1 hl).1;exact⟨S,c,cB,hD,hL,aV,gR c _ _ _ _ hi (aA.weaken (by omega) (λk e=>(cB k).2 (.inl e))),(aA.keep _ aa (.inl (by omega))).trans hl,(aA.keep _ (by omega) (.inl (by omega))).trans hk⟩
  ·
   rintro pre x Si W bp ⟨S,cB,hD,hL,aV,hi,hl,hk⟩ fd EY;have aa:w.heap.size+1<W.heap.size:=(eQ.1 hl).1;have x8:∀ k,S k->k<W.heap.size:=λk e=>fd k ((cB k).2 (.inl e));have hy:=run_yield (P:=P) (args:=encs x) hl (by rw[ei];exact fE x);rw[ei] at hy;refine⟨fn,_,assign,body,hy,roundIn_of_wpIn im (wpIn_mono (yd _ pre x S W bp hi x8) ?_)⟩;intro e a1 Wa hq
   cases e with
   | normal=>
    obtain⟨S1,fk,bi,yT,xO⟩:=hq;have rl:¬ S1 w.heap.size:=λe=>by rcases bi _ e with e | e;exact hD e;omega
    have nG:¬ S1 (w.heap.size+1):=λe=>by rcases bi _ e with e | e;exact hL e;omega
    have fB:Wa.heap[w.heap.size+1]?=some (.loop (rec .ready none)):=(fk.keep _ aa hL).trans hl;have yA:Wa.heap[w.heap.size]?=some (.deferred (some [])):=(fk.keep _ (by omega) hD).trans hk;have rk:w.heap.size+1<Wa.heap.size:=(eQ.1 fB).1;refine⟨_,run_beginRound fB (by rw[ei]),?_⟩;have hb:=yi (w.heap.size+1) pre x S1 a1 (Wa.putObj (w.heap.size+1) (.loop { rec .ready none with state:=.busy })) bp (hA _ _ _ _ _ _ xO (ir _ (by omega) nG)) (λk e=>by simpa using yT k e);refine wpIn_mono hb ?_;have fin:∀ (jump:Option Code) (W3:World) (S3:Nat->Prop),RdStep S1 (Wa.putObj (w.heap.size+1) (.loop { rec .ready none with state:=.busy })) W3->(∀ k,S3 k->S1 k\/(Wa.putObj (w.heap.size+1) (.loop { rec .ready none with state:=.busy })).heap.size<=k)->(∀ k,S3 k->k<W3.heap.size)->
     (Instr.endRound (w.heap.size+1) jump).run P W3 = .ok (.bool jump.isNone) (W3.putObj (w.heap.size+1) (.loop (rec (if jump.isNone then .ready else .done) jump)))/\
     (W3.putObj (w.heap.size+1) (.loop (rec (if jump.isNone then .ready else .done) jump))).heap[w.heap.size+1]?=some (.loop (rec (if jump.isNone then .ready else .done) jump))/\
     (W3.putObj (w.heap.size+1) (.loop (rec (if jump.isNone then .ready else .done) jump))).heap[w.heap.size]?=some (.deferred (some []))/\
     ¬ S3 w.heap.size/\¬ S3 (w.heap.size+1)/\(∀ k,S3 k->S k\/W.heap.size<=k)/\
     RdStep Si W (W3.putObj (w.heap.size+1) (.loop (rec (if jump.isNone then .ready else .done) jump))):=λjump W3 S3 cr cO ct=>by
     have dI:(Wa.putObj (w.heap.size+1) (.loop { rec .ready none with state:=.busy })).heap[w.heap.size+1]?=some (.loop { rec .ready none with state:=.busy }):=World.putObj_heap_same rk;have iR:(Wa.putObj (w.heap.size+1) (.loop { rec .ready none with state:=.busy })).heap[w.heap.size]?=some (.deferred (some [])):=(zQ (by omega)).trans yA;have lT:=(cr.keep _ (by simpa using rk) nG).trans dI;have ld:=(cr.keep _ (by simp;omega) rl).trans iR;have nE:=(eQ.1 lT).1
     have:=run_endRound (P:=P) jump lT
     rw[ei] at this |-;have j9:=cr.size;have rB:=fk.size;simp only[World.putObj_size] at j9 cO;refine⟨this,World.putObj_heap_same nE,(zQ (by omega)).trans ld,λe=>?_,λe=>?_,λk e=>?_,?_⟩
     ·rcases cO _ e with e | e;exact rl e;omega
     ·rcases cO _ e with e | e;exact nG e;omega
     ·rcases cO _ e with e | e
      ·exact bi _ e
      ·right;omega
     ·refine⟨cr.os.trans fk.os,cr.tape.trans fk.tape,cr.output.trans fk.output,by simp;omega,λk hk' rm=>?_,yQ fk.drawn cr.drawn⟩;have lh:k≠w.heap.size+1:=λe=>rm ((cB k).2 (.inr e));have rn:¬ S k:=λe=>rm ((cB k).2 (.inl e));have yH:¬ S1 k:=λe=>by rcases bi _ e with e | e;exact rn e;omega
      exact (zQ lh).trans ((cr.keep k (by simp;omega) yH).trans ((zQ lh).trans (fk.keep k hk' rn)))
    have fin2:∀ (S3:Nat->Prop) (W3:World) (o:Obj),(∀ k,S3 k->k<W3.heap.size)->W.heap.size<=W3.heap.size->(∀ k,S3 k->S k\/W.heap.size<=k)->
     (∀ k,(S3 k\/k=w.heap.size+1)->Si k\/W.heap.size<=k)/\(∀ k,(S3 k\/k=w.heap.size+1)->k<(W3.putObj (w.heap.size+1) o).heap.size):=λS3 W3 o h1 h2 h3=>
     ⟨λk e=>by rcases e with e | e;exact (h3 k e).imp (λe'=>(cB k).2 (.inl e')) id;exact .inl ((cB k).2 (.inr e)),λk e=>by
      simp only[World.putObj_size];rcases e with e | e
      ·exact h1 k e
      ·omega⟩
    have sub3:∀ (S3:Nat->Prop),(∀ k,S3 k->S k\/W.heap.size<=k)->∀ k,S3 k->S0 k\/w.heap.size<=k:=λS3 h k e=>by
     rcases h k e with e | e
     ·exact aV k e
     ·right;omega
    rintro e a3 W3 hp
    cases e with
    | normal=>
     obtain⟨S3,cr,cO,ct,jz⟩:=hp;obtain⟨hr,jB,iS,gJ,fj,da,aN⟩:=fin none W3 S3 cr cO ct;have an:W.heap.size<=W3.heap.size:=by simpa using aN.size
     refine⟨_,_,hr,λk=>S3 k\/k=w.heap.size+1,aN,(fin2 S3 W3 (.deferred none) ct an da).1,(fin2 S3 W3 _ ct an da).2,.inl ⟨rfl,S3,λ_=>Iff.rfl,gJ,fj,sub3 S3 da,hI _ _ _ _ jz (ir _ (by omega) fj),jB,iS⟩⟩
    | ret=>
     obtain⟨S3,cr,cO,ct,jz⟩:=hp;obtain⟨hr,jB,iS,gJ,fj,da,aN⟩:=fin (some .ret) W3 S3 cr cO ct;have an:W.heap.size<=W3.heap.size:=by simpa using aN.size
     refine⟨_,_,hr,λk=>S3 k\/k=w.heap.size+1,aN,(fin2 S3 W3 (.deferred none) ct an da).1,(fin2 S3 W3 _ ct an da).2,.inr ⟨rfl,S3,.ret,λ_=>Iff.rfl,gJ,fj,sub3 S3 da,gR _ _ _ _ _ jz (ir _ (by omega) fj),jB,iS⟩⟩
    | exit id=>
     obtain⟨S3,cr,cO,ct,jz⟩:=hp;obtain⟨hr,jB,iS,gJ,fj,da,aN⟩:=fin (some (.exit id)) W3 S3 cr cO ct;have an:W.heap.size<=W3.heap.size:=by simpa using aN.size
     refine⟨_,_,hr,λk=>S3 k\/k=w.heap.size+1,aN,(fin2 S3 W3 (.deferred none) ct an da).1,(fin2 S3 W3 _ ct an da).2,.inr ⟨rfl,S3,.exit id,λ_=>Iff.rfl,gJ,fj,sub3 S3 da,gR _ _ _ _ _ jz (ir _ (by omega) fj),jB,iS⟩⟩
    | goto t=>exact hp.elim
    | panic ch=>exact hp.elim
    | outgrown=>exact hp.elim
   | ret=>exact hq.elim
   | exit id=>exact hq.elim
   | goto t=>exact hq.elim
   | panic ch=>exact hq.elim
   | outgrown=>exact hq.elim
  ·rintro k (e | rfl)
   ·exact nt k e
   ·omega
  ·rintro k (e | rfl)
   ·have:=jw k e;omega
   ·omega
  ·exact⟨S0,λ_=>Iff.rfl,λe=>by have:=jw _ e;omega,λe=>by have:=jw _ e;omega,λ_ e=>.inl e,no,iL,xU⟩
theorem jr{B:Nat}{S:Nat->Prop}{W W':World}{b:Nat}{t:TypeId}{v:Value}(h:Boxed W b t v)(hs:ItStep B S W W')(hb:S b):Boxed W' b t v:=(hs.keep b h.lt (.inr hb)).trans h
theorem sO{n B:Nat}{S:Nat->Prop}{w W W':World}(h:Below n w W)(hs:ItStep B S W W')(hB:n<=B)(hn:n<=w.heap.size):Below n w W':=
 ⟨hs.os.trans h.os,hs.tape.trans h.tape,hs.output.trans h.output,yQ h.size hs.size,λk hk=>(hs.keep k (by have:=h.size;omega) (.inl (by omega))).trans (h.block k hk),yQ h.drawn hs.drawn⟩
theorem Jv{S:Nat->Prop}{W W':World}{b:Nat}{t:TypeId}{v:Value}(h:Boxed W b t v)(hs:RdStep S W W')(hb:¬ S b):Boxed W' b t v:=(hs.keep b h.lt hb).trans h
theorem cG{n:Nat}{W W':World}{b:Nat}{t:TypeId}{v:Value}(h:Boxed W b t v)(hs:Below n W W')(hb:b<n):Boxed W' b t v:=(hs.block b hb).trans h
theorem ef{W:World}{b:Nat}{t:TypeId}{v:Value}(h:Boxed W b t v){p:Addr}(hp:b≠p.block)(u:Value):Boxed (W.setCell p u) b t v:=(wQ W p u b hp).trans h
theorem mu{P:Program}{fn:Func}{R:Ending->World->Prop}{tmps:Array Value}{w:World}{v:Value}(pT:(results fn tmps).run P w = .ok v w)(hR:R (.returned v) w) :
 bodyPostM Fence.wide 0 P fn R .ret { tmps:=tmps,defers:=[] } w:=⟨_,pT,hR⟩
theorem nj{P:Program}{fn:Func}{R:Ending->World->Prop}{tmps:Array Value}{W:World}{D:Nat}{v:Value}(hK:W.heap[D]?=some (.deferred (some [])))
 (pT:(results fn tmps).run P (W.putObj D (.deferred none)) = .ok v (W.putObj D (.deferred none))) (hR:R (.returned v) (W.putObj D (.deferred none))) :
 bodyPostM Fence.wide 0 P fn R .ret { tmps:=tmps,defers:=[{ target:=.collected D,args:=#[] }] } W:=
 ⟨by simp,.inl ⟨_,_,rfl,run_takeDeferred hK,_,pT,hR⟩⟩
theorem ni{n D:Nat}{w W:World}(h:Below n w W)(hD:n<=D)(o:Obj):Below n w (W.putObj D o):=
 ⟨h.os,h.tape,h.output,by simpa using h.size,λk hk=>(zQ (by omega)).trans (h.block k hk),h.drawn⟩
theorem sP{W:World}{b D:Nat}{t:TypeId}{v:Value}(h:Boxed W b t v)(hD:b≠D)(o:Obj):Boxed (W.putObj D o) b t v:=(zQ hD).trans h
theorem CJ{α:Type}{P:Program}{g:Operand}{ps:Array Tmp}{assign body:Code}{Q:Exit->Act->World->Prop}{a:Act}{w:World}
 {gf:FuncId} {first captured:Array Value} (hg:a.eval g = .func (.func gf) first captured) (eg:∀ args w,(callFunc gf args).run P w = .ok (.enter gf args) w)
 {mk:Value->Array Value} {encs:α->Array Value} {xs:List α} {n₀:Nat} {w0:World} (fC:∀ y,mk y=first ++ #[y]++captured)
 (hit:sJ P gf mk encs xs n₀ w0) (cn:Below n₀ w0 w) (lU:n₀<=w.heap.size) (fE:∀ x,(encs x).size=ps.size)
 (I:List α->(Nat->Prop)->World->Prop) (Ix:Code->List α->(Nat->Prop)->World->Prop)
 (hI:eY w.heap.size I) (gR:∀ c,eY w.heap.size (Ix c))
 (S0:Nat->Prop) (nt:∀ k,S0 k->n₀<=k) (jw:∀ k,S0 k->k<w.heap.size) (h0:I [] S0 w)
 (yS:∀ (l0:Nat) (pre:List α) (x:α) (S:Nat->Prop) (W:World),pre ++ [x] <+: xs->I pre S W->(∀ k,S k->k<W.heap.size)->
   assign.wpIn (Fence.wide.inRound l0) 0 P (Exit.then (λa₁ W₁=>∃ S',RdStep S W W₁/\(∀ k,S' k->S k\/W.heap.size<=k)/\(∀ k,S' k->k<W₁.heap.size)/\
    ∀ l W₂,ItStep w.heap.size S' W₁ W₂->body.wpIn (Fence.wide.inRound l) 0 P (lI I Ix (pre ++ [x]) S' W₂) a₁ W₂) (λ_ _ _=>False))
    { tmps:=(ps.zip (encs x)).foldl (λt (p,v)=>t.setIfInBounds p v) a.tmps,defers:=[] } W)
 (kC:∀ (D:Nat) (S:Nat->Prop) (W:World),w.heap.size<=D->¬ S D->(∀ k,S k->S0 k\/w.heap.size<=k)->I xs S W->W.heap[D]?=some (.deferred (some []))->
   Q .normal { a with defers:={ target:=.collected D,args:=#[] } :: a.defers } W)
 (kG:∀ (D:Nat) (c:Code) (pre:List α) (S:Nat->Prop) (W:World),w.heap.size<=D->¬ S D->(∀ k,S k->S0 k\/w.heap.size<=k)->pre <+: xs->Ix c pre S W->W.heap[D]?=some (.deferred (some []))->
   c.wpIn Fence.wide 0 P Q { a with defers:={ target:=.collected D,args:=#[] } :: a.defers } W) :
 (Code.rangeFunc g ps assign body).wpIn Fence.wide 0 P Q a w:=
 GY hg eg fC hit cn lU fE I Ix (λpre x S a₁ W=>∀ l W₂,ItStep w.heap.size S W W₂->body.wpIn (Fence.wide.inRound l) 0 P (lI I Ix (pre ++ [x]) S W₂) a₁ W₂)
  hI gR (λ_ _ _ _ _ _ h hs l W₂ h2=>h l W₂ (hs.trans h2)) S0 nt jw h0 yS (λl _ _ _ _ W _ h _=>h l W (ItStep.refl _ _ _)) kC kG
def bq(w:World):Type:={ x:World // Below w.heap.size w x }
def bq.w{w:World}(g:bq w):World:=g.1
theorem bq.below{w:World}(g:bq w):Below w.heap.size w g.w:=g.2
instance (w:World):Nonempty (bq w):=⟨⟨w,vQ _ _⟩⟩
theorem bq.cell{w:World}(g:bq w)(p:Addr)(h:p.block<w.heap.size):g.w.cell? p=w.cell? p:=g.2.cell h
theorem bq.frozen{w:World}(g:bq w)(p:Addr)(h:p.block<w.heap.size):g.w.frozen? p=w.frozen? p:=g.2.frozen h
theorem bq.size{w:World}(g:bq w):w.heap.size<=g.w.heap.size:=g.2.size
def vZ(w:World)(w':World):Prop:=∃ g:bq w,w'=g.w
theorem vZ.of{w w':World}(h:Below w.heap.size w w'):vZ w w':=⟨⟨w',h⟩,rfl⟩
theorem Calls.grow_of{P:Program}{f:FuncId}{args:Array Value}{w:World}{g:bq w}{v:Value}
 (h:Calls P f args g.w λe w'=>e = .returned v/\Below g.w.heap.size g.w w'):Calls P f args g.w λe w''=>e = .returned v/\∃ g':bq w,w''=g'.w:=
 h.mono λ_ w' ⟨he,hm⟩=>⟨he,⟨w',g.2.trans (hm.mono g.2.size)⟩,rfl⟩
section
variable {P:Program}
theorem fG{id:Nat}{Q:Exit->Act->World->Prop}{a:Act}{w:World}{l:List Oper}(hm:P.follows .mixedOrders=true)(hB:Region.lexB .any l.toArray=true)
 (h:wpQuiet P l.toArray (λw'=>∃ g:bq w,w'=g.w) (λa'=>∀ w',(∃ g:bq w,w'=g.w)->Q .normal a' w') l a):(Code.region id l.toArray true).wp P Q a w:=
 wp_region_quiet (C:=λw'=>∃ g:bq w,w'=g.w) hm hB ⟨⟨_,(vQ w.heap.size w).drew⟩,rfl⟩ (by simpa using h)
end
theorem qJ{W w1:World}(hb:Below W.heap.size W w1):(∀ b o,b<W.heap.size->w1.cell? ⟨b,o,none⟩=W.cell? ⟨b,o,none⟩)/\(∀ b o,b<W.heap.size->w1.frozen? ⟨b,o,none⟩=W.frozen? ⟨b,o,none⟩):=
 ⟨λb o h=>hb.cell (p:=⟨b,o,none⟩) h,λb o h=>hb.frozen (p:=⟨b,o,none⟩) h⟩
end D
namespace D
open Go.RowKit Go.Shelf
attribute [local go_sem] Oper.semAt_some
abbrev aB(l:List UInt8):Value:=.string ⟨l.toArray⟩
def GI:Value->Nat
 | .string s=>s.size
 | _=>0
def CM(t:ByteArray)(J:List (List UInt8)->(Nat->Prop)->World->Prop)(S:Nat->Prop)(W:World)(v:Value)(wr:World):Prop:=
 ∃ (pre:List (List UInt8)) (r:ByteArray) (S1:Nat->Prop),v = .string r/\r.size<=140737488355328/\Np.back t.data.toList=pre++(Np.aO r.data.toList).reverse/\
   J pre S1 wr/\(∀ k,S1 k->k<wr.heap.size)/\W.heap.size<=wr.heap.size/\(∀ k,S1 k->S k\/W.heap.size<=k)
theorem AM(t:ByteArray)(ht:t.size<=140737488355328)(n₀:Nat)(w:World) :
 sJ prog 215 (λy=>#[.string t,y]) (λx:List UInt8=>#[aB x]) (Np.back t.data.toList) n₀ w:=by
 intro l J Jx S W hW hJ Bi hY hS hS' h0;refine callsIn_of_wp func215 rfl trivial ?_ rfl;simp only[ntmps215,List.size_toArray,List.length_cons,List.length_nil,Nat.reduceAdd,Nat.reduceSub,Array.replicate_succ,Array.replicate_zero,List.push_toArray,List.append_toArray,List.nil_append,List.cons_append];gi_wp2_with fail
 ·have he:(t.toList == [46])=true:=by assumption
  have jY:t.data.toList = [46]:=by rw[<-dQ];simpa using he
  have hb:Np.back t.data.toList = []:=by simp[Np.back,jY]
  refine bodyPost_ret (results_none rfl _ _ _) rfl ?_;exact⟨⟨_,rfl⟩,.inl ⟨S,by rw[hb];exact h0,λk e=>.inl e⟩⟩
 ·have he:(t.toList == [46])=false:=by assumption
  have hne:¬ t.data.toList = [46]:=by rw[<-dQ];simpa using he
  have hb:Np.back t.data.toList=(Np.aO t.data.toList).reverse:=by simp[Np.back,hne]
  have HB:=jq hb;clear hb;gi_loopw [4] (λv wr=>CM t J S W v wr) (λv _=>GI v)
  case atStart=>exact⟨[],t,S,rfl,ht,by simpa using HB.out,h0,hS',bQ _,λ_ e=>.inl e⟩
  case round=>
   obtain⟨pre,r,S1,rfl,hr,fD,hj,aa,an,aV⟩:=hrel;have HP:=jq fD;clear fD;gi_wp2_with fail;refine⟨trivial,rfl,?_⟩;refine (callsIn_wide.2 (Gg _ hr _ (by decide) (by decide) _)).mono ?_;rintro e w' ⟨q,hq,rfl,rfl⟩;rcases hq with ⟨rfl,fN⟩ | ⟨a,b,fY,ro,rfl⟩
   ·have bi:Np.aO r.data.toList = [r.data.toList]:=Np.vN fN;have hx:pre ++ [r.data.toList] <+: Np.back t.data.toList:=by rw[HP.out,bi];exact List.prefix_refl _
    obtain⟨fn,tmps,assign,body,hy,hR⟩:=hY pre r.data.toList S1 wr hx hj aa an;have lq:Sem.run prog (Instr.yield l #[.string r]) wr = .ok (.round l fn tmps assign body) wr:=hy;clear hy;have HX:=jq hx;clear hx;have HS:=jq bi;clear bi fN;gi_wp2_with fail;refine⟨rfl,hR.mono ?_⟩;rintro e W3 ⟨S3,aN,nL,nE,(⟨rfl,sY⟩ | ⟨rfl,sZ⟩)⟩
    all_goals
     gi_wp2_with fail;refine bodyPost_ret (results_none rfl _ _ _) rfl ?_
    ·refine⟨⟨_,rfl⟩,.inl ⟨S3,?_,λk e=>?_⟩⟩
     ·rw[HP.out,HS.out];exact sY
     ·rcases nL k e with e | e
      ·exact aV k e
      ·right;omega
    ·refine⟨⟨_,rfl⟩,.inr ⟨_,S3,HX.out,sZ,λk e=>?_⟩⟩;rcases nL k e with e | e
     ·exact aV k e
     ·right;omega
   ·have iW:a.length+1+b.length=r.size:=by rw[<-aU,fY];simp;omega
    have bi:Np.aO r.data.toList=Np.aO a ++ [b]:=by rw[fY];exact (Np.zA a b).trans (by rw[Np.vN ro])
    have hx:pre ++ [b] <+: Np.back t.data.toList:=by rw[HP.out,bi];simp
    have rF:(r.extract (a.length+1) r.size).data.toList=b:=by rw[AT,fY];simp
    have oH:(r.extract 0 a.length).data.toList=a:=by rw[AU,fY];simp
    have yU:(r.extract 0 a.length).size=a.length:=by rw[<-aU,oH]
    obtain⟨fn,tmps,assign,body,hy,hR⟩:=hY pre b S1 wr hx hj aa an;have lq:Sem.run prog (Instr.yield l #[.string (r.extract (a.length+1) r.size)]) wr = .ok (.round l fn tmps assign body) wr:=by
     have:aB b = .string (r.extract (a.length+1) r.size):=by show Value.string _=_;congr 1;exact kL (by rw[rF])
     simp only[this] at hy;exact hy
    clear hy;have HX:=jq hx;have HS:=jq bi;have HA:=jq oH;have n9:=jq yU;clear hx bi rF oH yU fY ro;have jV:a.length<=140737488355328:=by omega
    have Kh:a.length+1<=r.size:=by omega
    have H2:=jq iW;clear iW;gi_wp2_with fail;refine⟨rfl,hR.mono ?_⟩;rintro e W3 ⟨S3,aN,nL,nE,(⟨rfl,sY⟩ | ⟨rfl,sZ⟩)⟩
    ·have UU:=aN.size;gi_wp2_with fail;go_roundw
     case rel=>
      refine⟨pre ++ [b],r.extract 0 a.length,S3,rfl,by rw[n9.out];exact jV,?_,sY,nE,by omega,λk e=>?_⟩
      ·rw[HP.out,HS.out,HA.out];simp
      ·rcases nL k e with e | e
       ·exact aV k e
       ·right;omega
     case measure=>show (r.extract 0 a.length).size<r.size;rw[n9.out];omega
    ·gi_wp2_with fail;refine bodyPost_ret (results_none rfl _ _ _) rfl ?_;refine⟨⟨_,rfl⟩,.inr ⟨_,S3,HX.out,sZ,λk e=>?_⟩⟩;rcases nL k e with e | e
     ·exact aV k e
     ·right;omega
end D
section
open Go.RowKit
structure ItStep(B:Nat)(S:Nat->Prop)(W W':World):Prop where
 os:W'.os=W.os
 tape:W'.tape=W.tape
 output:W'.output=W.output
 size:W.heap.size<=W'.heap.size
 keep:∀ k,k<W.heap.size->(k<B\/S k)->W'.heap[k]?=W.heap[k]?
structure RdStep(S:Nat->Prop)(W W':World):Prop where
 os:W'.os=W.os
 tape:W'.tape=W.tape
 output:W'.output=W.output
 size:W.heap.size<=W'.heap.size
 keep:∀ k,k<W.heap.size->¬ S k->W'.heap[k]?=W.heap[k]?
theorem ItStep.refl(B:Nat)(S:Nat->Prop)(W:World):ItStep B S W W:=⟨rfl,rfl,rfl,bQ _,λ_ _ _=>rfl⟩
theorem RdStep.refl(S:Nat->Prop)(W:World):RdStep S W W:=⟨rfl,rfl,rfl,bQ _,λ_ _ _=>rfl⟩
theorem ItStep.trans{B:Nat}{S:Nat->Prop}{A W C:World}(h:ItStep B S A W)(k:ItStep B S W C):ItStep B S A C:=
 ⟨k.os.trans h.os,k.tape.trans h.tape,k.output.trans h.output,yQ h.size k.size,λi hi hs=>(k.keep i (lQ hi h.size) hs).trans (h.keep i hi hs)⟩
theorem RdStep.trans{S S':Nat->Prop}{A W C:World}(h:RdStep S A W)(k:RdStep S' W C)(hS:∀ i,S' i->S i\/A.heap.size<=i):RdStep S A C:=
 ⟨k.os.trans h.os,k.tape.trans h.tape,k.output.trans h.output,yQ h.size k.size,λi hi hs=>
  (k.keep i (lQ hi h.size) (λe=>by rcases hS i e with e | e;exact hs e;omega)).trans (h.keep i hi hs)⟩
theorem RdStep.mono{S S':Nat->Prop}{A W:World}(h:RdStep S A W)(hS:∀ i,S i->S' i):RdStep S' A W:=
 ⟨h.os,h.tape,h.output,h.size,λi hi hs=>h.keep i hi (λe=>hs (hS i e))⟩
theorem ItStep.of_below{B:Nat}{S:Nat->Prop}{A W:World}(h:Below A.heap.size A W):ItStep B S A W:=
 ⟨h.os,h.tape,h.output,h.size,λk hk _=>h.block k hk⟩
theorem RdStep.of_below{S:Nat->Prop}{A W:World}(h:Below A.heap.size A W):RdStep S A W:=
 ⟨h.os,h.tape,h.output,h.size,λk hk _=>h.block k hk⟩
theorem RdStep.below{S:Nat->Prop}{A W:World}{n:Nat}(h:RdStep S A W)(hn:n<=A.heap.size)(hS:∀ k,S k->n<=k):Below n A W:=
 ⟨h.os,h.tape,h.output,h.size,λk hk=>h.keep k (by omega) (λe=>by have:=hS k e;omega)⟩
theorem RdStep.setCell{S:Nat->Prop}{A W:World}(h:RdStep S A W){p:Addr}(hp:S p.block\/A.heap.size<=p.block)(u:Value):RdStep S A (W.setCell p u):=
 ⟨h.os,h.tape,h.output,by simpa [World.setCell] using h.size,λk hk hs=>(wQ _ _ _ _ (by rintro rfl;rcases hp with hp | hp;exact hs hp;omega)).trans (h.keep k hk hs)⟩
theorem RdStep.alloc{S:Nat->Prop}{A W:World}(h:RdStep S A W)(o:Obj):RdStep S A (W.alloc o):=
 ⟨h.os,h.tape,h.output,yQ h.size (by simp),λk hk hs=>(Below.heap_alloc _ _ _ (lQ hk h.size)).trans (h.keep k hk hs)⟩
theorem RdStep.drew{S:Nat->Prop}{A W:World}(h:RdStep S A W):RdStep S A W.drew:=⟨h.os,h.tape,h.output,h.size,h.keep⟩
theorem RdStep.grown{S:Nat->Prop}{A W C:World}{row:Option Nat}(h:RdStep S A W)(hg:W.grownBy C row)(hr:∀ k,row=some k->S k\/A.heap.size<=k):RdStep S A C:=
 ⟨hg.os.trans h.os,hg.tape.trans h.tape,hg.output.trans h.output,yQ h.size hg.size,λk hk hs=>
  (hg.block k (lQ hk h.size) (λe=>by rcases hr k e.symm with e' | e';exact hs e';omega)).trans (h.keep k hk hs)⟩
theorem RdStep.then_below{S:Nat->Prop}{A W C:World}(h:RdStep S A W)(k:Below W.heap.size W C):RdStep S A C:=
 ⟨k.os.trans h.os,k.tape.trans h.tape,k.output.trans h.output,yQ h.size k.size,λi hi hs=>(k.block i (lQ hi h.size)).trans (h.keep i hi hs)⟩
def eY{β:Type}(B:Nat)(J:β->(Nat->Prop)->World->Prop):Prop:=∀ s S W W',J s S W->ItStep B S W W'->J s S W'
def AH{α:Type}(J Jx:List α->(Nat->Prop)->World->Prop)(pre:List α)(x:α)(S:Nat->Prop)(W:World)(e:Ending)(W':World):Prop:=
 ∃ S':Nat->Prop,RdStep S W W'/\(∀ k,S' k->S k\/W.heap.size<=k)/\(∀ k,S' k->k<W'.heap.size)/\
   ((e = .returned (.bool true)/\J (pre ++ [x]) S' W')\/(e = .returned (.bool false)/\Jx (pre ++ [x]) S' W'))
def sJ{α:Type}(P:Program)(gf:FuncId)(mk:Value->Array Value)(encs:α->Array Value)(xs:List α)(n₀:Nat)(w:World):Prop:=
 ∀ (l:Nat) (J Jx:List α->(Nat->Prop)->World->Prop) (S:Nat->Prop) (W:World),Below n₀ w W->
   eY W.heap.size J->eY W.heap.size Jx->
   (∀ pre x S1 W1,pre ++ [x] <+: xs->J pre S1 W1->(∀ k,S1 k->k<W1.heap.size)->W.heap.size<=W1.heap.size->
     YieldAt Fence.wide 0 P l (encs x) W1 (AH J Jx pre x S1 W1))->
   (∀ k,S k->n₀<=k)->(∀ k,S k->k<W.heap.size)->J [] S W->
   CallsIn Fence.wide 0 P gf (mk (.func (.yield l) #[] #[])) W λe W'=>(∃ v,e = .returned v)/\
    ((∃ S',J xs S' W'/\(∀ k,S' k->S k\/W.heap.size<=k))\/(∃ pre S',pre <+: xs/\Jx pre S' W'/\(∀ k,S' k->S k\/W.heap.size<=k)))
def lI{α:Type}(I:List α->(Nat->Prop)->World->Prop)(Ix:Code->List α->(Nat->Prop)->World->Prop)(xs:List α)(S:Nat->Prop)(W:World):Exit->Act->World->Prop
 | .normal,_,W'=>∃ S',RdStep S W W'/\(∀ k,S' k->S k\/W.heap.size<=k)/\(∀ k,S' k->k<W'.heap.size)/\I xs S' W'
 | .ret,_,W'=>∃ S',RdStep S W W'/\(∀ k,S' k->S k\/W.heap.size<=k)/\(∀ k,S' k->k<W'.heap.size)/\Ix .ret xs S' W'
 | .exit id,_,W'=>∃ S',RdStep S W W'/\(∀ k,S' k->S k\/W.heap.size<=k)/\(∀ k,S' k->k<W'.heap.size)/\Ix (.exit id) xs S' W'
 | _,_,_=>False
theorem ir{B:Nat}{S:Nat->Prop}{W:World}{l:Nat}(o:Obj)(hl:B<=l)(hS:¬ S l):ItStep B S W (W.putObj l o):=
 ⟨rfl,rfl,rfl,by simp,λk _ hk=>zQ (by rintro rfl;rcases hk with hk | hk;omega;exact hS hk)⟩
theorem rH{B:Nat}{S:Nat->Prop}{W:World}(o:Obj):ItStep B S W (W.alloc o):=
 ⟨rfl,rfl,rfl,by simp,λk hk _=>Below.heap_alloc _ _ _ hk⟩
theorem ItStep.weaken{B B':Nat}{S S':Nat->Prop}{W W':World}(h:ItStep B S W W')(hB:B'<=B)(hS:∀ k,S' k->S k):ItStep B' S' W W':=
 ⟨h.os,h.tape,h.output,h.size,λk hk hs=>h.keep k hk (hs.imp (λe=>by omega) (hS k))⟩
theorem GY{α:Type}{P:Program}{g:Operand}{ps:Array Tmp}{assign body:Code}{Q:Exit->Act->World->Prop}{a:Act}{w:World}
 {gf:FuncId} {first captured:Array Value} (hg:a.eval g = .func (.func gf) first captured) (eg:∀ args w,(callFunc gf args).run P w = .ok (.enter gf args) w)
 {mk:Value->Array Value} {encs:α->Array Value} {xs:List α} {n₀:Nat} {w0:World} (fC:∀ y,mk y=first ++ #[y]++captured)
 (hit:sJ P gf mk encs xs n₀ w0) (cn:Below n₀ w0 w) (lU:n₀<=w.heap.size) (fE:∀ x,(encs x).size=ps.size)
 (I:List α->(Nat->Prop)->World->Prop) (Ix:Code->List α->(Nat->Prop)->World->Prop) (A:List α->α->(Nat->Prop)->Act->World->Prop)
 (hI:eY w.heap.size I) (gR:∀ c,eY w.heap.size (Ix c)) (hA:∀ pre x S a' W W',A pre x S a' W->ItStep w.heap.size S W W'->A pre x S a' W')
 (S0:Nat->Prop) (nt:∀ k,S0 k->n₀<=k) (jw:∀ k,S0 k->k<w.heap.size) (h0:I [] S0 w)
 (yd:∀ (l:Nat) (pre:List α) (x:α) (S:Nat->Prop) (W:World),pre ++ [x] <+: xs->I pre S W->(∀ k,S k->k<W.heap.size)->
   assign.wpIn (Fence.wide.inRound l) 0 P (Exit.then (λa₁ W₁=>∃ S',RdStep S W W₁/\(∀ k,S' k->S k\/W.heap.size<=k)/\(∀ k,S' k->k<W₁.heap.size)/\A pre x S' a₁ W₁) (λ_ _ _=>False))
    { tmps:=(ps.zip (encs x)).foldl (λt (p,v)=>t.setIfInBounds p v) a.tmps,defers:=[] } W)
 (yi:∀ (l:Nat) (pre:List α) (x:α) (S:Nat->Prop) (a₁:Act) (W:World),pre ++ [x] <+: xs->A pre x S a₁ W->(∀ k,S k->k<W.heap.size)->
   body.wpIn (Fence.wide.inRound l) 0 P (lI I Ix (pre ++ [x]) S W) a₁ W)
 (kC:∀ (D:Nat) (S:Nat->Prop) (W:World),w.heap.size<=D->¬ S D->(∀ k,S k->S0 k\/w.heap.size<=k)->I xs S W->W.heap[D]?=some (.deferred (some []))->
   Q .normal { a with defers:={ target:=.collected D,args:=#[] } :: a.defers } W)
 (kG:∀ (D:Nat) (c:Code) (pre:List α) (S:Nat->Prop) (W:World),w.heap.size<=D->¬ S D->(∀ k,S k->S0 k\/w.heap.size<=k)->pre <+: xs->Ix c pre S W->W.heap[D]?=some (.deferred (some []))->
   c.wpIn Fence.wide 0 P Q { a with defers:={ target:=.collected D,args:=#[] } :: a.defers } W) :
 (Code.rangeFunc g ps assign body).wpIn Fence.wide 0 P Q a w:=by
 refine wpIn_rangeFunc ?_;intro fn im;show ∃ (l:Nat) (mark:List Deferred) (w₁:World) (d:Deferred) (w₁':World) (f:FuncId) (args:Array Value) (w₂:World),(Instr.enterLoop fn a.tmps ps assign body none).run P w = .ok (l,mark) w₁/\_;obtain⟨rec,ei⟩:∃ rec:LoopState->Option Code->Loop,rec=λst pe=>{ state:=st,pending:=pe,fn,tmps:=a.tmps,params:=ps,assign,body,defers:=w.heap.size }:=⟨_,rfl⟩;obtain⟨W1,ap⟩:∃ W1,(w.alloc (.deferred (some []))).alloc (.loop (rec .ready none))=W1:=⟨_,rfl⟩;have an:W1.heap.size=w.heap.size+2:=by rw[<-ap];simp
 have iL:W1.heap[w.heap.size+1]?=some (.loop (rec .ready none)):=by
  rw[<-ap];have:=World.alloc_heap_new (w.alloc (.deferred (some []))) (.loop (rec .ready none));rwa [World.size_alloc] at this
 have xU:W1.heap[w.heap.size]?=some (.deferred (some [])):=by
  rw[<-ap];exact (Below.heap_alloc _ _ _ (by simp)).trans (World.alloc_heap_new w _)
 have no:I [] S0 W1:=by rw[<-ap];exact hI _ _ _ _ (hI _ _ _ _ h0 (rH _)) (rH _)
 have az:Below n₀ w0 W1:=by
  rw[<-ap];exact cn.trans ((((vQ _ w).alloc (bQ _) _).alloc (by simp) _).mono lU)
 refine⟨w.heap.size+1,[{ target:=.collected w.heap.size,args:=#[] }],W1,{ target:=.fn (.func gf) captured,args:=first ++ #[.func (.yield (w.heap.size+1)) #[] #[]] },W1,gf,
  first ++ #[.func (.yield (w.heap.size+1)) #[] #[]]++captured,W1,?_,?_,?_,?_,λh=>by simp[Fence.wide] at h,?_⟩
 ·rw[<-ap,ei];exact run_enterLoop_outer _ _ _ _ _
 ·simp only[resolve,hg];simp[go_sem]
 ·intro f' _;trivial
 ·simp[invoke,go_sem,eg]
 ·rw[<-fC];have key:=hit (w.heap.size+1)
   (λpre Si W=>∃ S:Nat->Prop,(∀ k,Si k↔S k\/k=w.heap.size+1)/\(¬ S w.heap.size)/\(¬ S (w.heap.size+1))/\(∀ k,S k->S0 k\/w.heap.size<=k)/\I pre S W/\W.heap[w.heap.size+1]?=some (.loop (rec .ready none))/\W.heap[w.heap.size]?=some (.deferred (some [])))
   (λpre Si W=>∃ (S:Nat->Prop) (c:Code),(∀ k,Si k↔S k\/k=w.heap.size+1)/\(¬ S w.heap.size)/\(¬ S (w.heap.size+1))/\(∀ k,S k->S0 k\/w.heap.size<=k)/\Ix c pre S W/\W.heap[w.heap.size+1]?=some (.loop (rec .done (some c)))/\W.heap[w.heap.size]?=some (.deferred (some [])))
   (λk=>S0 k\/k=w.heap.size+1) W1 az ?_ ?_ ?_ ?_ ?_ ?_
  ·refine key.mono ?_;rintro e W2 ⟨⟨v,rfl⟩,(⟨S',⟨S,cB,hD,hL,aV,hi,hl,hk⟩,_⟩ | ⟨pre,S',fD,⟨S,c,cB,hD,hL,aV,hi,hl,hk⟩,_⟩)⟩
   ·refine⟨none,_,by have:=run_endLoop (P:=P) hl (by rw[ei];simp);rw[ei] at this;exact this,?_⟩;exact kC _ S _ (bQ _) hD aV (hI _ _ _ _ hi (ir _ (by omega) hL)) ((zQ (by omega)).trans hk)
   ·refine⟨some c,_,by have:=run_endLoop (P:=P) hl (by rw[ei];simp);rw[ei] at this;exact this,?_⟩;exact kG _ c pre S _ (bQ _) hD aV fD ((gR c) _ _ _ _ hi (ir _ (by omega) hL)) ((zQ (by omega)).trans hk)
  ·rintro pre Si A1 B1 ⟨S,cB,hD,hL,aV,hi,hl,hk⟩ aA;have aa:w.heap.size+1<A1.heap.size:=(eQ.1 hl).1;exact⟨S,cB,hD,hL,aV,hI _ _ _ _ hi (aA.weaken (by omega) (λk e=>(cB k).2 (.inl e))),(aA.keep _ aa (.inl (by omega))).trans hl,(aA.keep _ (by omega) (.inl (by omega))).trans hk⟩
  ·rintro pre Si A1 B1 ⟨S,c,cB,hD,hL,aV,hi,hl,hk⟩ aA;have aa:w.heap.size+1<A1.heap.size:=(eQ.1 hl).1;exact⟨S,c,cB,hD,hL,aV,gR c _ _ _ _ hi (aA.weaken (by omega) (λk e=>(cB k).2 (.inl e))),(aA.keep _ aa (.inl (by omega))).trans hl,(aA.keep _ (by omega) (.inl (by omega))).trans hk⟩
  ·
   rintro pre x Si W bp ⟨S,cB,hD,hL,aV,hi,hl,hk⟩ fd EY;have aa:w.heap.size+1<W.heap.size:=(eQ.1 hl).1;have x8:∀ k,S k->k<W.heap.size:=λk e=>fd k ((cB k).2 (.inl e));have hy:=run_yield (P:=P) (args:=encs x) hl (by rw[ei];exact fE x);rw[ei] at hy;refine⟨fn,_,assign,body,hy,roundIn_of_wpIn im (wpIn_mono (yd _ pre x S W bp hi x8) ?_)⟩;intro e a1 Wa hq
   cases e with
   | normal=>
    obtain⟨S1,fk,bi,yT,xO⟩:=hq;have rl:¬ S1 w.heap.size:=λe=>by rcases bi _ e with e | e;exact hD e;omega
    have nG:¬ S1 (w.heap.size+1):=λe=>by rcases bi _ e with e | e;exact hL e;omega
    have fB:Wa.heap[w.heap.size+1]?=some (.loop (rec .ready none)):=(fk.keep _ aa hL).trans hl;have yA:Wa.heap[w.heap.size]?=some (.deferred (some [])):=(fk.keep _ (by omega) hD).trans hk;have rk:w.heap.size+1<Wa.heap.size:=(eQ.1 fB).1;refine⟨_,run_beginRound fB (by rw[ei]),?_⟩;have hb:=yi (w.heap.size+1) pre x S1 a1 (Wa.putObj (w.heap.size+1) (.loop { rec .ready none with state:=.busy })) bp (hA _ _ _ _ _ _ xO (ir _ (by omega) nG)) (λk e=>by simpa using yT k e);refine wpIn_mono hb ?_;have fin:∀ (jump:Option Code) (W3:World) (S3:Nat->Prop),RdStep S1 (Wa.putObj (w.heap.size+1) (.loop { rec .ready none with state:=.busy })) W3->(∀ k,S3 k->S1 k\/(Wa.putObj (w.heap.size+1) (.loop { rec .ready none with state:=.busy })).heap.size<=k)->(∀ k,S3 k->k<W3.heap.size)->
     (Instr.endRound (w.heap.size+1) jump).run P W3 = .ok (.bool jump.isNone) (W3.putObj (w.heap.size+1) (.loop (rec (if jump.isNone then .ready else .done) jump)))/\
     (W3.putObj (w.heap.size+1) (.loop (rec (if jump.isNone then .ready else .done) jump))).heap[w.heap.size+1]?=some (.loop (rec (if jump.isNone then .ready else .done) jump))/\
     (W3.putObj (w.heap.size+1) (.loop (rec (if jump.isNone then .ready else .done) jump))).heap[w.heap.size]?=some (.deferred (some []))/\
     ¬ S3 w.heap.size/\¬ S3 (w.heap.size+1)/\(∀ k,S3 k->S k\/W.heap.size<=k)/\
     RdStep Si W (W3.putObj (w.heap.size+1) (.loop (rec (if jump.isNone then .ready else .done) jump))):=λjump W3 S3 cr cO ct=>by
     have dI:(Wa.putObj (w.heap.size+1) (.loop { rec .ready none with state:=.busy })).heap[w.heap.size+1]?=some (.loop { rec .ready none with state:=.busy }):=World.putObj_heap_same rk;have iR:(Wa.putObj (w.heap.size+1) (.loop { rec .ready none with state:=.busy })).heap[w.heap.size]?=some (.deferred (some [])):=(zQ (by omega)).trans yA;have lT:=(cr.keep _ (by simpa using rk) nG).trans dI;have ld:=(cr.keep _ (by simp;omega) rl).trans iR;have nE:=(eQ.1 lT).1
     have:=run_endRound (P:=P) jump lT
     rw[ei] at this |-;have j9:=cr.size;have rB:=fk.size;simp only[World.putObj_size] at j9 cO;refine⟨this,World.putObj_heap_same nE,(zQ (by omega)).trans ld,λe=>?_,λe=>?_,λk e=>?_,?_⟩
     ·rcases cO _ e with e | e;exact rl e;omega
     ·rcases cO _ e with e | e;exact nG e;omega
     ·rcases cO _ e with e | e
      ·exact bi _ e
      ·right;omega
     ·refine⟨cr.os.trans fk.os,cr.tape.trans fk.tape,cr.output.trans fk.output,by simp;omega,λk hk' rm=>?_⟩;have lh:k≠w.heap.size+1:=λe=>rm ((cB k).2 (.inr e));have rn:¬ S k:=λe=>rm ((cB k).2 (.inl e));have yH:¬ S1 k:=λe=>by rcases bi _ e with e | e;exact rn e;omega
      exact (zQ lh).trans ((cr.keep k (by simp;omega) yH).trans ((zQ lh).trans (fk.keep k hk' rn)))
    have fin2:∀ (S3:Nat->Prop) (W3:World) (o:Obj),(∀ k,S3 k->k<W3.heap.size)->W.heap.size<=W3.heap.size->(∀ k,S3 k->S k\/W.heap.size<=k)->
     (∀ k,(S3 k\/k=w.heap.size+1)->Si k\/W.heap.size<=k)/\(∀ k,(S3 k\/k=w.heap.size+1)->k<(W3.putObj (w.heap.size+1) o).heap.size):=λS3 W3 o h1 h2 h3=>
     ⟨λk e=>by rcases e with e | e;exact (h3 k e).imp (λe'=>(cB k).2 (.inl e')) id;exact .inl ((cB k).2 (.inr e)),λk e=>by
      simp only[World.putObj_size];rcases e with e | e
      ·exact h1 k e
      ·omega⟩
    have sub3:∀ (S3:Nat->Prop),(∀ k,S3 k->S k\/W.heap.size<=k)->∀ k,S3 k->S0 k\/w.heap.size<=k:=λS3 h k e=>by
     rcases h k e with e | e
     ·exact aV k e
     ·right;omega
    rintro e a3 W3 hp
    cases e with
    | normal=>
     obtain⟨S3,cr,cO,ct,jz⟩:=hp;obtain⟨hr,jB,iS,gJ,fj,da,aN⟩:=fin none W3 S3 cr cO ct;have an:W.heap.size<=W3.heap.size:=by simpa using aN.size
     refine⟨_,_,hr,λk=>S3 k\/k=w.heap.size+1,aN,(fin2 S3 W3 (.deferred none) ct an da).1,(fin2 S3 W3 _ ct an da).2,.inl ⟨rfl,S3,λ_=>Iff.rfl,gJ,fj,sub3 S3 da,hI _ _ _ _ jz (ir _ (by omega) fj),jB,iS⟩⟩
    | ret=>
     obtain⟨S3,cr,cO,ct,jz⟩:=hp;obtain⟨hr,jB,iS,gJ,fj,da,aN⟩:=fin (some .ret) W3 S3 cr cO ct;have an:W.heap.size<=W3.heap.size:=by simpa using aN.size
     refine⟨_,_,hr,λk=>S3 k\/k=w.heap.size+1,aN,(fin2 S3 W3 (.deferred none) ct an da).1,(fin2 S3 W3 _ ct an da).2,.inr ⟨rfl,S3,.ret,λ_=>Iff.rfl,gJ,fj,sub3 S3 da,gR _ _ _ _ _ jz (ir _ (by omega) fj),jB,iS⟩⟩
    | exit id=>
     obtain⟨S3,cr,cO,ct,jz⟩:=hp;obtain⟨hr,jB,iS,gJ,fj,da,aN⟩:=fin (some (.exit id)) W3 S3 cr cO ct;have an:W.heap.size<=W3.heap.size:=by simpa using aN.size
     refine⟨_,_,hr,λk=>S3 k\/k=w.heap.size+1,aN,(fin2 S3 W3 (.deferred none) ct an da).1,(fin2 S3 W3 _ ct an da).2,.inr ⟨rfl,S3,.exit id,λ_=>Iff.rfl,gJ,fj,sub3 S3 da,gR _ _ _ _ _ jz (ir _ (by omega) fj),jB,iS⟩⟩
    | goto t=>exact hp.elim
    | panic ch=>exact hp.elim
    | outgrown=>exact hp.elim
   | ret=>exact hq.elim
   | exit id=>exact hq.elim
   | goto t=>exact hq.elim
   | panic ch=>exact hq.elim
   | outgrown=>exact hq.elim
  ·rintro k (e | rfl)
   ·exact nt k e
   ·omega
  ·rintro k (e | rfl)
   ·have:=jw k e;omega
   ·omega
  ·exact⟨S0,λ_=>Iff.rfl,λe=>by have:=jw _ e;omega,λe=>by have:=jw _ e;omega,λ_ e=>.inl e,no,iL,xU⟩
theorem jr{B:Nat}{S:Nat->Prop}{W W':World}{b:Nat}{t:TypeId}{v:Value}(h:Boxed W b t v)(hs:ItStep B S W W')(hb:S b):Boxed W' b t v:=(hs.keep b h.lt (.inr hb)).trans h
theorem sO{n B:Nat}{S:Nat->Prop}{w W W':World}(h:Below n w W)(hs:ItStep B S W W')(hB:n<=B)(hn:n<=w.heap.size):Below n w W':=
 ⟨hs.os.trans h.os,hs.tape.trans h.tape,hs.output.trans h.output,yQ h.size hs.size,λk hk=>(hs.keep k (by have:=h.size;omega) (.inl (by omega))).trans (h.block k hk)⟩
theorem Jv{S:Nat->Prop}{W W':World}{b:Nat}{t:TypeId}{v:Value}(h:Boxed W b t v)(hs:RdStep S W W')(hb:¬ S b):Boxed W' b t v:=(hs.keep b h.lt hb).trans h
theorem cG{n:Nat}{W W':World}{b:Nat}{t:TypeId}{v:Value}(h:Boxed W b t v)(hs:Below n W W')(hb:b<n):Boxed W' b t v:=(hs.block b hb).trans h
theorem ef{W:World}{b:Nat}{t:TypeId}{v:Value}(h:Boxed W b t v){p:Addr}(hp:b≠p.block)(u:Value):Boxed (W.setCell p u) b t v:=(wQ W p u b hp).trans h
theorem mu{P:Program}{fn:Func}{R:Ending->World->Prop}{tmps:Array Value}{w:World}{v:Value}(pT:(results fn tmps).run P w = .ok v w)(hR:R (.returned v) w) :
 bodyPostM Fence.wide 0 P fn R .ret { tmps:=tmps,defers:=[] } w:=⟨_,pT,hR⟩
theorem nj{P:Program}{fn:Func}{R:Ending->World->Prop}{tmps:Array Value}{W:World}{D:Nat}{v:Value}(hK:W.heap[D]?=some (.deferred (some [])))
 (pT:(results fn tmps).run P (W.putObj D (.deferred none)) = .ok v (W.putObj D (.deferred none))) (hR:R (.returned v) (W.putObj D (.deferred none))) :
 bodyPostM Fence.wide 0 P fn R .ret { tmps:=tmps,defers:=[{ target:=.collected D,args:=#[] }] } W:=
 ⟨by simp,.inl ⟨_,_,rfl,run_takeDeferred hK,_,pT,hR⟩⟩
theorem ni{n D:Nat}{w W:World}(h:Below n w W)(hD:n<=D)(o:Obj):Below n w (W.putObj D o):=
 ⟨h.os,h.tape,h.output,by simpa using h.size,λk hk=>(zQ (by omega)).trans (h.block k hk)⟩
theorem sP{W:World}{b D:Nat}{t:TypeId}{v:Value}(h:Boxed W b t v)(hD:b≠D)(o:Obj):Boxed (W.putObj D o) b t v:=(zQ hD).trans h
theorem CJ{α:Type}{P:Program}{g:Operand}{ps:Array Tmp}{assign body:Code}{Q:Exit->Act->World->Prop}{a:Act}{w:World}
 {gf:FuncId} {first captured:Array Value} (hg:a.eval g = .func (.func gf) first captured) (eg:∀ args w,(callFunc gf args).run P w = .ok (.enter gf args) w)
 {mk:Value->Array Value} {encs:α->Array Value} {xs:List α} {n₀:Nat} {w0:World} (fC:∀ y,mk y=first ++ #[y]++captured)
 (hit:sJ P gf mk encs xs n₀ w0) (cn:Below n₀ w0 w) (lU:n₀<=w.heap.size) (fE:∀ x,(encs x).size=ps.size)
 (I:List α->(Nat->Prop)->World->Prop) (Ix:Code->List α->(Nat->Prop)->World->Prop)
 (hI:eY w.heap.size I) (gR:∀ c,eY w.heap.size (Ix c))
 (S0:Nat->Prop) (nt:∀ k,S0 k->n₀<=k) (jw:∀ k,S0 k->k<w.heap.size) (h0:I [] S0 w)
 (yS:∀ (l0:Nat) (pre:List α) (x:α) (S:Nat->Prop) (W:World),pre ++ [x] <+: xs->I pre S W->(∀ k,S k->k<W.heap.size)->
   assign.wpIn (Fence.wide.inRound l0) 0 P (Exit.then (λa₁ W₁=>∃ S',RdStep S W W₁/\(∀ k,S' k->S k\/W.heap.size<=k)/\(∀ k,S' k->k<W₁.heap.size)/\
    ∀ l W₂,ItStep w.heap.size S' W₁ W₂->body.wpIn (Fence.wide.inRound l) 0 P (lI I Ix (pre ++ [x]) S' W₂) a₁ W₂) (λ_ _ _=>False))
    { tmps:=(ps.zip (encs x)).foldl (λt (p,v)=>t.setIfInBounds p v) a.tmps,defers:=[] } W)
 (kC:∀ (D:Nat) (S:Nat->Prop) (W:World),w.heap.size<=D->¬ S D->(∀ k,S k->S0 k\/w.heap.size<=k)->I xs S W->W.heap[D]?=some (.deferred (some []))->
   Q .normal { a with defers:={ target:=.collected D,args:=#[] } :: a.defers } W)
 (kG:∀ (D:Nat) (c:Code) (pre:List α) (S:Nat->Prop) (W:World),w.heap.size<=D->¬ S D->(∀ k,S k->S0 k\/w.heap.size<=k)->pre <+: xs->Ix c pre S W->W.heap[D]?=some (.deferred (some []))->
   c.wpIn Fence.wide 0 P Q { a with defers:={ target:=.collected D,args:=#[] } :: a.defers } W) :
 (Code.rangeFunc g ps assign body).wpIn Fence.wide 0 P Q a w:=
 GY hg eg fC hit cn lU fE I Ix (λpre x S a₁ W=>∀ l W₂,ItStep w.heap.size S W W₂->body.wpIn (Fence.wide.inRound l) 0 P (lI I Ix (pre ++ [x]) S W₂) a₁ W₂)
  hI gR (λ_ _ _ _ _ _ h hs l W₂ h2=>h l W₂ (hs.trans h2)) S0 nt jw h0 yS (λl _ _ _ _ W _ h _=>h l W (ItStep.refl _ _ _)) kC kG
end
section
open Go.RowKit Go.Shelf
attribute [local go_sem] Oper.semAt_some
abbrev aB(l:List UInt8):Value:=.string ⟨l.toArray⟩
def GI:Value->Nat
 | .string s=>s.size
 | _=>0
def CM(t:ByteArray)(J:List (List UInt8)->(Nat->Prop)->World->Prop)(S:Nat->Prop)(W:World)(v:Value)(wr:World):Prop:=
 ∃ (pre:List (List UInt8)) (r:ByteArray) (S1:Nat->Prop),v = .string r/\r.size<=140737488355328/\Np.back t.data.toList=pre++(Np.aO r.data.toList).reverse/\
   J pre S1 wr/\(∀ k,S1 k->k<wr.heap.size)/\W.heap.size<=wr.heap.size/\(∀ k,S1 k->S k\/W.heap.size<=k)
theorem AM(t:ByteArray)(ht:t.size<=140737488355328)(n₀:Nat)(w:World) :
 sJ prog 215 (λy=>#[.string t,y]) (λx:List UInt8=>#[aB x]) (Np.back t.data.toList) n₀ w:=by
 intro l J Jx S W hW hJ Bi hY hS hS' h0;refine callsIn_of_wp func215 rfl trivial ?_ rfl;simp only[ntmps215,List.size_toArray,List.length_cons,List.length_nil,Nat.reduceAdd,Nat.reduceSub,Array.replicate_succ,Array.replicate_zero,List.push_toArray,List.append_toArray,List.nil_append,List.cons_append];gi_wp2_with fail
 ·have he:(t.toList == [46])=true:=by assumption
  have jY:t.data.toList = [46]:=by rw[<-dQ];simpa using he
  have hb:Np.back t.data.toList = []:=by simp[Np.back,jY]
  refine bodyPost_ret (results_none rfl _ _ _) rfl ?_;exact⟨⟨_,rfl⟩,.inl ⟨S,by rw[hb];exact h0,λk e=>.inl e⟩⟩
 ·have he:(t.toList == [46])=false:=by assumption
  have hne:¬ t.data.toList = [46]:=by rw[<-dQ];simpa using he
  have hb:Np.back t.data.toList=(Np.aO t.data.toList).reverse:=by simp[Np.back,hne]
  have HB:=jq hb;clear hb;gi_loopw [4] (λv wr=>CM t J S W v wr) (λv _=>GI v)
  case atStart=>exact⟨[],t,S,rfl,ht,by simpa using HB.out,h0,hS',bQ _,λ_ e=>.inl e⟩
  case round=>
   obtain⟨pre,r,S1,rfl,hr,fD,hj,aa,an,aV⟩:=hrel;have HP:=jq fD;clear fD;gi_wp2_with fail;refine⟨trivial,rfl,?_⟩;refine (callsIn_wide.2 (Gg _ hr _ (by decide) (by decide) _)).mono ?_;rintro e w' ⟨q,hq,rfl,rfl⟩;rcases hq with ⟨rfl,fN⟩ | ⟨a,b,fY,ro,rfl⟩
   ·have bi:Np.aO r.data.toList = [r.data.toList]:=Np.vN fN;have hx:pre ++ [r.data.toList] <+: Np.back t.data.toList:=by rw[HP.out,bi];exact List.prefix_refl _
    obtain⟨fn,tmps,assign,body,hy,hR⟩:=hY pre r.data.toList S1 wr hx hj aa an;have lq:Sem.run prog (Instr.yield l #[.string r]) wr = .ok (.round l fn tmps assign body) wr:=hy;clear hy;have HX:=jq hx;clear hx;have HS:=jq bi;clear bi fN;gi_wp2_with fail;refine⟨rfl,hR.mono ?_⟩;rintro e W3 ⟨S3,aN,nL,nE,(⟨rfl,sY⟩ | ⟨rfl,sZ⟩)⟩
    all_goals
     gi_wp2_with fail;refine bodyPost_ret (results_none rfl _ _ _) rfl ?_
    ·refine⟨⟨_,rfl⟩,.inl ⟨S3,?_,λk e=>?_⟩⟩
     ·rw[HP.out,HS.out];exact sY
     ·rcases nL k e with e | e
      ·exact aV k e
      ·right;omega
    ·refine⟨⟨_,rfl⟩,.inr ⟨_,S3,HX.out,sZ,λk e=>?_⟩⟩;rcases nL k e with e | e
     ·exact aV k e
     ·right;omega
   ·have iW:a.length+1+b.length=r.size:=by rw[<-aU,fY];simp;omega
    have bi:Np.aO r.data.toList=Np.aO a ++ [b]:=by rw[fY];exact (Np.zA a b).trans (by rw[Np.vN ro])
    have hx:pre ++ [b] <+: Np.back t.data.toList:=by rw[HP.out,bi];simp
    have rF:(r.extract (a.length+1) r.size).data.toList=b:=by rw[AT,fY];simp
    have oH:(r.extract 0 a.length).data.toList=a:=by rw[AU,fY];simp
    have yU:(r.extract 0 a.length).size=a.length:=by rw[<-aU,oH]
    obtain⟨fn,tmps,assign,body,hy,hR⟩:=hY pre b S1 wr hx hj aa an;have lq:Sem.run prog (Instr.yield l #[.string (r.extract (a.length+1) r.size)]) wr = .ok (.round l fn tmps assign body) wr:=by
     have:aB b = .string (r.extract (a.length+1) r.size):=by show Value.string _=_;congr 1;exact kL (by rw[rF])
     simp only[this] at hy;exact hy
    clear hy;have HX:=jq hx;have HS:=jq bi;have HA:=jq oH;have n9:=jq yU;clear hx bi rF oH yU fY ro;have jV:a.length<=140737488355328:=by omega
    have Kh:a.length+1<=r.size:=by omega
    have H2:=jq iW;clear iW;gi_wp2_with fail;refine⟨rfl,hR.mono ?_⟩;rintro e W3 ⟨S3,aN,nL,nE,(⟨rfl,sY⟩ | ⟨rfl,sZ⟩)⟩
    ·have UU:=aN.size;gi_wp2_with fail;go_roundw
     case rel=>
      refine⟨pre ++ [b],r.extract 0 a.length,S3,rfl,by rw[n9.out];exact jV,?_,sY,nE,by omega,λk e=>?_⟩
      ·rw[HP.out,HS.out,HA.out];simp
      ·rcases nL k e with e | e
       ·exact aV k e
       ·right;omega
     case measure=>show (r.extract 0 a.length).size<r.size;rw[n9.out];omega
    ·gi_wp2_with fail;refine bodyPost_ret (results_none rfl _ _ _) rfl ?_;refine⟨⟨_,rfl⟩,.inr ⟨_,S3,HX.out,sZ,λk e=>?_⟩⟩;rcases nL k e with e | e
     ·exact aV k e
     ·right;omega
end
namespace D
open Go.RowKit Go.Shelf
attribute [local go_sem] Oper.semAt_some
def rN(pre:List (List UInt8)):Bool:=pre.getLast? == some [42]
def AI(w:World)(xs:List (List UInt8))(pre:List (List UInt8))(S:Nat->Prop)(W:World):Prop:=
 (∀ k,S k↔k=w.heap.size\/k=w.heap.size+1\/k=w.heap.size+1+1)/\Boxed W w.heap.size 4 (.bool false)/\Boxed W (w.heap.size+1) 3 (.int .i64 pre.length)/\Boxed W (w.heap.size+1+1) 4 (.bool (rN pre))/\
 (pre.length<=8/\∀ rest,xs=pre++rest->Np.eE xs 0 false=Np.eE rest pre.length (rN pre))/\Below w.heap.size w W
def AJ(w:World)(xs:List (List UInt8))(c:Code)(_:List (List UInt8))(S:Nat->Prop)(W:World):Prop:=
 c = .ret/\(∀ k,S k↔k=w.heap.size\/k=w.heap.size+1\/k=w.heap.size+1+1)/\Boxed W w.heap.size 4 (.bool false)/\Np.eE xs 0 false=false/\Below w.heap.size w W
theorem Oa(w:World)(xs:List (List UInt8))(B:Nat)(hB:w.heap.size<=B):eY B (AI w xs):=by
 rintro s S W W' ⟨hS,h1,h2,h3,h4,h5⟩ aA;exact⟨hS,jr h1 aA ((hS _).2 (.inl rfl)),jr h2 aA ((hS _).2 (.inr (.inl rfl))),jr h3 aA ((hS _).2 (.inr (.inr rfl))),h4,sO h5 aA hB (bQ _)⟩
theorem Zx(w:World)(xs:List (List UInt8))(B:Nat)(hB:w.heap.size<=B)(c:Code):eY B (AJ w xs c):=by
 rintro s S W W' ⟨hc,hS,h1,h4,h5⟩ aA;exact⟨hc,hS,jr h1 aA ((hS _).2 (.inl rfl)),h4,sO h5 aA hB (bQ _)⟩
theorem GT{w:World}{xs pre:List (List UInt8)}{S:Nat->Prop}{W W3:World}{a:Act}(hS:∀ k,S k↔k=w.heap.size\/k=w.heap.size+1\/k=w.heap.size+1+1)
 (hr:RdStep S W W3) (aa:∀ k,S k->k<W.heap.size) (c0:Boxed W3 w.heap.size 4 (.bool false)) (hB:Below w.heap.size w W3) (hg:Np.eE xs 0 false=false) :
 lI (AI w xs) (AJ w xs) pre S W .ret a (W3.setCell ⟨w.heap.size,0,none⟩ (.bool false)):=
 ⟨S,hr.setCell (.inl ((hS _).2 (.inl rfl))) _,λ_ e=>.inl e,λk e=>by have:=aa k e;have:=hr.size;simp[World.setCell];omega,rfl,hS,c0.set _,hg,hB.setCell (bQ _) _⟩
theorem Oc{w:World}{xs pre rest:List (List UInt8)}{x:List UInt8}{S:Nat->Prop}{W W3:World}{a:Act}(hS:∀ k,S k↔k=w.heap.size\/k=w.heap.size+1\/k=w.heap.size+1+1)
 (hr:RdStep S W W3) (aa:∀ k,S k->k<W.heap.size) (c0:Boxed W3 w.heap.size 4 (.bool false)) (c1:Boxed W3 (w.heap.size+1) 3 (.int .i64 (pre.length+1))) (c2:Boxed W3 (w.heap.size+1+1) 4 (.bool (x == [42])))
 (hB:Below w.heap.size w W3) (pU:pre ++ [x]++rest=xs) (hl:pre.length+1<=8) (hg:Np.eE xs 0 false=Np.eE rest (pre.length+1) (x == [42])) :
 lI (AI w xs) (AJ w xs) (pre ++ [x]) S W .normal a W3:=by
 have hw:rN (pre ++ [x])=(x == [42]):=by simp[rN]
 refine⟨S,hr,λ_ e=>.inl e,λk e=>by have:=aa k e;have:=hr.size;omega,hS,c0,by simpa using c1,by rw[hw];exact c2,⟨by simpa using hl,λr h=>?_⟩,hB⟩
 have:r=rest:=List.append_cancel_left (h.symm.trans pU.symm)
 rw[hg,this,hw];simp
theorem valid_any(t:ByteArray)(ht:t.size<=140737488355328)(w:World) :
 Calls prog 175 #[.string t] w λe w'=>e = .returned (.bool (Np.aC t.data.toList))/\Below w.heap.size w w':=by
 refine (callsIn_wide (n:=0)).1 ?_;refine callsIn_of_wp_marks func175 rfl trivial ?_ rfl;simp only[ntmps175,List.size_toArray,List.length_cons,List.length_nil,Nat.reduceAdd,Nat.reduceSub,Array.replicate_succ,Array.replicate_zero,List.push_toArray,List.append_toArray,List.nil_append,List.cons_append];gi_wp2_with fail
 ·have he:(t.toList == [46])=true:=by assumption
  have jY:t.data.toList = [46]:=by rw[<-dQ];simpa using he
  exact mu (v:=.bool true) (by simp[results,results175,go_sem]) ⟨by rw[Np.aC,Qb jY],(vQ _ _).alloc (bQ _) _⟩
 ·have he:(t.toList == [46])=false:=by assumption
  have jY:¬ t.data.toList = [46]:=by rw[<-dQ];simpa using he
  have hl:60<(t.size:Int):=by assumption
  exact mu (v:=.bool false) (by simp[results,results175,go_sem]) ⟨by rw[Np.aC,Qc jY,Qb (by rw[aU];omega)],(vQ _ _).alloc (bQ _) _⟩
 ·have he:(t.toList == [46])=false:=by assumption
  have jY:¬ t.data.toList = [46]:=by rw[<-dQ];simpa using he
  have hl:(t.size:Int)<=60:=by assumption
  have hv:Np.aC t.data.toList=Np.eE (Np.back t.data.toList) 0 false:=by
   rw[Np.aC,Qc jY,Qc (by rw[aU];omega),Np.back,Qc jY]
  have HV:=jq hv;clear hv;have b0:=Boxed.new w 4 (.bool false);have b1:=Boxed.new (w.alloc (.cells #[.bool false] 4)) 3 (.int .i64 0);have b2:=Boxed.new ((w.alloc (.cells #[.bool false] 4)).alloc (.cells #[.int .i64 0] 3)) 4 (.bool false);simp only[World.size_alloc] at b1 b2;refine CJ (n₀:=w.heap.size) (w0:=w) (first:=#[.string t]) (captured:=#[]) (gf:=215) rfl (enters_of func215 (by kernel_rfl) rfl) (mk:=λy=>#[.string t,y]) (λ_=>rfl)
   (AM t ht _ w) ((((vQ _ w).alloc (bQ _) _).alloc (by simp) _).alloc (by simp;omega) _) (by simp;omega) (λ_=>rfl) (AI w (Np.back t.data.toList)) (AJ w (Np.back t.data.toList))
   (Oa _ _ _ (by simp;omega)) (λc=>Zx _ _ _ (by simp;omega) c)
   (λk=>k=w.heap.size\/k=w.heap.size+1\/k=w.heap.size+1+1) (by intro k h;omega) (by intro k h;simp;omega)
   ⟨λ_=>Iff.rfl,(b0.alloc _).alloc _,b1.alloc _,b2,⟨by simp,λrest h=>by rw[h];rfl⟩,(((vQ _ w).alloc (bQ _) _).alloc (by simp) _).alloc (by simp;omega) _⟩ ?round ?done ?stop
  case round=>
   rintro l0 pre x S W bp hI fd;gi_wp2;refine⟨S,RdStep.refl _ _,λk e=>.inl e,fd,?_⟩;intro l W₂ aA;obtain⟨hS,c0,c1,c2,hg,hB⟩:=Oa w _ _ (by simp;omega) pre S W W₂ hI aA;have c0c:=c0.cell;have c1c:=c1.cell;have c2c:=c2.cell;have c0f:=c0.frozen;have c1f:=c1.frozen;have c2f:=c2.frozen;have hlen:=hg.1;have hx:x∈Np.back t.data.toList:=bp.subset (by simp);have mE:x.length<=60:=by have:=Np.AL hx;rw[aU] at this;omega
   have l3:(⟨x.toArray⟩:ByteArray).size<=140737488355328:=by rw[<-aU];simp;omega
   obtain⟨rest,pU⟩:=bp;have iO:Np.eE (Np.back t.data.toList) 0 false=Np.eE (x::rest) pre.length (rN pre):=hg.2 _ (by rw[<-pU];simp);have HR:=jq pU;have HG:=jq iO;have yh:∀ (b:Nat) (u:Value),w.heap.size<=b->Below w.heap.size w (W₂.setCell ⟨b,0,none⟩ u):=λb u hb=>hB.setCell (p:=⟨b,0,none⟩) hb u;have kY:∀ k,S k->k<W₂.heap.size:=λk e=>lQ (fd k e) aA.size;clear pU iO hg hx;gi_wp2_with (refine⟨trivial,rfl,?_⟩;gi_at_call 245;refine (CallsIn.inRound l (callsIn_wide.2 (VW _ l3 _))).mono ?_;rintro e w' ⟨rfl,rfl⟩)
   ·exact GT hS (RdStep.setCell (RdStep.refl S W₂) (p:=⟨w.heap.size+1,0,none⟩) (.inl ((hS _).2 (.inr (.inl rfl)))) _) kY (ef c0 (p:=⟨w.heap.size+1,0,none⟩) (by simp) _) (yh _ _ (by omega))
     (by rw[HG.out];have:rN pre=true:=by assumption
         simp[Np.eE,this])
   ·exact GT hS (RdStep.setCell (RdStep.refl S W₂) (p:=⟨w.heap.size+1,0,none⟩) (.inl ((hS _).2 (.inr (.inl rfl)))) _) kY (ef c0 (p:=⟨w.heap.size+1,0,none⟩) (by simp) _) (yh _ _ (by omega))
     (by rw[HG.out];have:8<pre.length+1:=by omega
         simp[Np.eE,this])
   ·have cU:x = [42]:=by assumption
    have e:(x == [42])=true:=by simp[cU]
    have fM:(pre.length:Int)+1<=8:=by assumption
    have h1:¬ rN pre=true:=by assumption
    have h2:¬ 8<pre.length+1:=by omega
    refine⟨trivial,?_⟩;gi_wp2;exact Oc hS (RdStep.setCell (RdStep.setCell (RdStep.refl S W₂) (p:=⟨w.heap.size+1,0,none⟩) (.inl ((hS _).2 (.inr (.inl rfl)))) _) (p:=⟨w.heap.size+1+1,0,none⟩) (.inl ((hS _).2 (.inr (.inr rfl)))) _) kY
     (ef (ef c0 (p:=⟨w.heap.size+1,0,none⟩) (by simp) _) (p:=⟨w.heap.size+1+1,0,none⟩) (by simp <;> omega) _)
     (ef (c1.set _) (p:=⟨w.heap.size+1+1,0,none⟩) (by simp <;> omega) _) (by rw[e];exact (ef c2 (p:=⟨w.heap.size+1,0,none⟩) (by simp) _).set _)
     ((yh _ _ (by omega)).setCell (p:=⟨w.heap.size+1+1,0,none⟩) (by simp;omega) _) HR.out (by omega) (by rw[HG.out];simp[Np.eE,h1,h2,cU])
   ·have hl:(!x == [42])=true/\(!Np.bS x)=true:=by assumption
    have cU:¬ x = [42]:=by assumption
    exact GT hS (RdStep.setCell (RdStep.setCell (RdStep.refl S W₂) (p:=⟨w.heap.size+1,0,none⟩) (.inl ((hS _).2 (.inr (.inl rfl)))) _) (p:=⟨w.heap.size+1+1,0,none⟩) (.inl ((hS _).2 (.inr (.inr rfl)))) _) kY
     (ef (ef c0 (p:=⟨w.heap.size+1,0,none⟩) (by simp) _) (p:=⟨w.heap.size+1+1,0,none⟩) (by simp <;> omega) _)
     ((yh _ _ (by omega)).setCell (p:=⟨w.heap.size+1+1,0,none⟩) (by simp;omega) _)
     (by rw[HG.out];have h2:Np.bS x=false:=by simpa using hl.2
         simp[Np.eE,cU,h2])
   ·have hl:(!x == [42])=false\/(!Np.bS x)=false:=by assumption
    have cU:¬ x = [42]:=by assumption
    have e:(x == [42])=false:=by simp[cU]
    have fM:(pre.length:Int)+1<=8:=by assumption
    have h1:¬ rN pre=true:=by assumption
    have h2:¬ 8<pre.length+1:=by omega
    have h3:Np.bS x=true:=by simpa [e] using hl
    exact Oc hS (RdStep.setCell (RdStep.setCell (RdStep.refl S W₂) (p:=⟨w.heap.size+1,0,none⟩) (.inl ((hS _).2 (.inr (.inl rfl)))) _) (p:=⟨w.heap.size+1+1,0,none⟩) (.inl ((hS _).2 (.inr (.inr rfl)))) _) kY
     (ef (ef c0 (p:=⟨w.heap.size+1,0,none⟩) (by simp) _) (p:=⟨w.heap.size+1+1,0,none⟩) (by simp <;> omega) _)
     (ef (c1.set _) (p:=⟨w.heap.size+1+1,0,none⟩) (by simp <;> omega) _) ((ef c2 (p:=⟨w.heap.size+1,0,none⟩) (by simp) _).set _)
     ((yh _ _ (by omega)).setCell (p:=⟨w.heap.size+1+1,0,none⟩) (by simp;omega) _) HR.out (by omega) (by rw[HG.out];simp[Np.eE,h1,h2,cU,h3,e])
  case done=>
   rintro D S W hD fX aV ⟨hS,c0,c1,c2,hg,hB⟩ hK;have c0c:=c0.cell;have c0f:=c0.frozen;have td:Np.eE (Np.back t.data.toList) 0 false=true:=by rw[hg.2 [] (by simp)];rfl
   have Bf:w.heap.size≠D:=λe=>fX ((hS _).2 (.inl e.symm));clear hg;have HE:=jq td;clear td;gi_wp2;have hK':(W.setCell ⟨w.heap.size,0,none⟩ (.bool true)).heap[D]?=some (.deferred (some [])):=(wQ _ _ _ _ (by simpa using Bf.symm)).trans hK;have c5:=(sP (c0.set (.bool true)) Bf (.deferred none)).cell;exact nj hK' (v:=.bool true) (by simp[results,results175,go_sem,c5]) ⟨by rw[HV.out,HE.out],ni (hB.setCell (bQ _) _) (by simp at hD;omega) _⟩
  case stop=>
   rintro D c pre S W hD fX aV fD ⟨rfl,hS,c0,hg,hB⟩ hK;have Bf:w.heap.size≠D:=λe=>fX ((hS _).2 (.inl e.symm));have HE:=jq hg;clear hg;gi_wp2;have c5:=(sP c0 Bf (.deferred none)).cell;exact nj hK (v:=.bool false) (by simp[results,results175,go_sem,c5]) ⟨by rw[HV.out,HE.out],ni hB (by simp at hD;omega) _⟩
theorem nameValid_any(t:ByteArray)(ht:t.size<=140737488355328)(w:World) :
 Calls prog 105 #[.string t] w λe w'=>e = .returned (.bool (Np.aC t.data.toList))/\Below w.heap.size w w':=by
 go_enter func105,ntmps105;go_wp2_with (go_at_call 175;refine (valid_any _ ht _).mono ?_;rintro e w' ⟨rfl,hb⟩);go_ret;exact⟨rfl,hb⟩
end D
section
open Go.RowKit
theorem valid_any(t:ByteArray)(ht:t.size<=140737488355328)(w:World) :
 Calls prog 175 #[.string t] w λe w'=>e = .returned (.bool (Np.aC t.data.toList))/\Below w.heap.size w w':=
 (D.valid_any t ht w).mono λ_ _ h=>⟨h.1,h.2.low⟩
theorem nameValid_any(t:ByteArray)(ht:t.size<=140737488355328)(w:World) :
 Calls prog 105 #[.string t] w λe w'=>e = .returned (.bool (Np.aC t.data.toList))/\Below w.heap.size w w':=
 (D.nameValid_any t ht w).mono λ_ _ h=>⟨h.1,h.2.low⟩
end
namespace Np
def cls(c:UInt8):Nat:=
 if c=32\/c=9\/c=10 then 1 else if c=35 then 2 else if oJ c||l4 c||c == 42 then 3 else if c=45 then 4 else if c=46 then 5 else if c=34 then 6
 else if c=123\/c=125\/c=59\/c=44\/c=61\/c=64 then 7 else 0
def qc(c:UInt8):Bool:=cls c == 3||cls c == 4||cls c == 5
def MA(c:UInt8):Bool:=c != 10
def Gb(c:UInt8):Bool:=c != 34&&c != 10
def XF(r:List UInt8):Nat:=if 1<=(r.takeWhile Gb).length/\r[(r.takeWhile Gb).length]?=some 34 then (r.takeWhile Gb).length+2 else 0
def Ok:List UInt8->Nat
 | []=>0
 | c::r=>match cls c with
   | 1=>1
   | 2=>((c::r).takeWhile MA).length
   | 3=>((c::r).takeWhile qc).length
   | 5=>if ((c::r).takeWhile qc).length=1 then 1 else 0
   | 6=>XF r
   | 7=>1
   | _=>0
structure Tok where
 kind:Int
 text:List UInt8
 n:Int
 pos:Int
deriving DecidableEq
def Tok.zero:Tok:=⟨0,[],0,0⟩
def dec(s:List UInt8):Nat:=s.foldl (λa c=>10 * a+(c.toNat - 48)) 0
def zC(k:Nat)(s:List UInt8):Int×Tok:=
 if k=7 then (0,⟨3,s,0,0⟩)
 else if k=6 then (if 42<s.length then (3,Tok.zero) else (0,⟨1,s,0,0⟩))
 else if s.all l4=false then (if 60<s.length then (3,Tok.zero) else (0,⟨1,s,0,0⟩))
 else if 1<s.length/\s.head?=some 48 then (10,Tok.zero)
 else if 1000000000<dec s then (3,Tok.zero) else (0,⟨2,[],dec s,0⟩)
def mF:List UInt8->Nat->Nat->List Tok×Int×Nat
 | [],_,_=>([],0,0)
 | c::r,p,k=>
  let n:=Ok (c::r)
  if cls c=1\/cls c=2 then mF (r.drop (n - 1)) (p+n) k
  else if n=0 then ([],10,p)
  else if k=2000 then ([],2,p)
  else if (zC (cls c) ((c::r).take n)).1≠0 then ([],(zC (cls c) ((c::r).take n)).1,p)
  else
   let x:=mF (r.drop (n - 1)) (p+n) (k+1)
   ({ (zC (cls c) ((c::r).take n)).2 with pos:=p } :: x.1,x.2)
termination_by l=>l.length
decreasing_by all_goals (simp;omega)
def lex(s:List UInt8):List Tok×Int×Nat:=
 if 8000<s.length then ([],2,0) else if (mF s 0 0).2.1=0 then ((mF s 0 0).1,0,0) else ([],(mF s 0 0).2)
end Np
end Go.Proofs.YtfnopgdcaanaiaaGreatDoor
