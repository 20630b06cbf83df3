/- Parts of the proof. No condition. -/
import Derived.Lib.Hide
import Derived.Below
import Derived.RangeFuncRecord
import Derived.Laws.Strings
import Derived.WalkKit
import Derived.WalkSpells
import Derived.WalkLawsBesides
import Derived.Deep.QuietTactic
import Derived.BigQuiet
import Derived.Deep.Draws
import Derived.BigGuardPart
import Derived.StillTailTactics
import Derived.Deep.Light
import GoSem.Op.String
import Derived.Test.YtfnopgdcaanaiaaGreatDoorProg
import Derived.RangeFuncSeq
import Derived.RangeFuncBox
import Derived.RangeFuncNested
import Derived.RangeFuncBound
import Derived.RangeFuncCalls
import Derived.RangeFuncLeaves
import Derived.Shelf.Abstract
import Derived.Shelf.RegionOpen
import Derived.OwnWalkIn
import Derived.TacticsInMore
import Derived.LoopNIn
import Derived.LoopIn
set_option linter.all false
set_option maxRecDepth 100000
set_option maxHeartbeats 8000000
namespace Go.Proofs.YtfnopgdcaanaiaaGreatDoor
open Go.Proofs.Tryz
section
open Go.RowKit
theorem jq{p:Prop}(h:p):Hid p:=Lib.hid h
theorem cl{B:Nat}{w w':World}(h:Below B w w'){b o:Nat}(hb:b<B):w'.cell? ⟨b,o,none⟩=w.cell? ⟨b,o,none⟩:=h.cell hb
theorem aQ.{u}{α:Type u}{l:List α}{i:Nat}(h:i<l.length):l[i]?=some l[i]:=List.getElem?_eq_getElem h
theorem bQ(n:Nat):n≤n:=Nat.le_refl n
theorem cQ.{u}{α:Type u}{i:Nat}{a:α}{l:List α}:l[i]?=some a↔∃ h:i<l.length,l[i]=a:=List.getElem?_eq_some_iff
theorem dQ(b:ByteArray):b.toList=b.data.toList:=ByteArray.toList_eq b
theorem eQ.{u}{α:Type u}{i:Nat}{b:α}{xs:Array α}:xs[i]?=some b↔∃ h:i<xs.size,xs[i]=b:=Array.getElem?_eq_some_iff
theorem fQ.{u}{α:Type u}{i:Nat}{l:List α}(h:i<l.length):l.take (i+1)=l.take i++[l[i]]:=List.take_succ_eq_append_getElem h
theorem gQ.{u}{α:Type u}{l:List α}{i:Nat}{a:α}(e:l[i]?=some a):a∈l:=List.mem_of_getElem? e
theorem Qh.{u}{α:Type u}{a:α}:¬a∈([]:List α):=List.not_mem_nil
theorem iQ{w w':World}{a:Addr}(h:w'.heap[a.block]?=w.heap[a.block]?):w'.cell? a=w.cell? a:=World.cell?_of_block h
theorem jQ(n:Nat):0≤n:=Nat.zero_le n
theorem kQ.{u}{α:Type u}{i:Nat}{l:List α}(h:l.length≤i):l.take i=l:=List.take_of_length_le h
theorem lQ{n m k:Nat}:n<m→m≤k→n<k:=Nat.lt_of_lt_of_le
theorem mQ.{u}{α:Type u}(y:α){a:α}{l:List α}:a∈l→a∈y::l:=List.mem_cons_of_mem y
theorem nQ.{u}{α:Type u}{a:α}{l:List α}:a∈l↔∃ (i:Nat) (h:i<l.length),l[i]=a:=List.mem_iff_getElem
theorem oQ.{u}{α:Type u}{l₁ l₂:List α}{i:Nat}:l₁.length≤i→(l₁++l₂)[i]?=l₂[i-l₁.length]?:=List.getElem?_append_right
theorem pQ.{u}{α:Type u}{xs:Array α}{i:Nat}(h:i<xs.size):xs[i]?=some xs[i]:=Array.getElem?_eq_getElem h
theorem rQ.{u}{α:Type u}{l:List α}:l.length=0→l=[]:=List.eq_nil_of_length_eq_zero
theorem sQ.{u}{α:Type u}{i:Nat}{l:List α}(h:i<l.length):l.drop i=l[i]::l.drop (i+1):=List.drop_eq_getElem_cons h
theorem tQ{p:Prop}[Decidable p]:¬p→decide p=false:=decide_eq_false
theorem uQ{p:Prop}[Decidable p]:p→decide p=true:=decide_eq_true
theorem vQ(B:Nat)(w:World):Below B w w:=Below.refl B w
theorem wQ(w:World)(a:Addr)(u:Value)(k:Nat)(h:k≠a.block):(w.setCell a u).heap[k]?=w.heap[k]?:=Below.heap_setCell w a u k h
theorem xQ(w:World)(a b:Addr)(v:Value)(h:a≠b):(w.setCell a v).cell? b=w.cell? b:=World.cell?_setCell_other w a b v h
theorem yQ{n m k:Nat}:n≤m→m≤k→n≤k:=Nat.le_trans
theorem zQ{r k:Nat}{o:Obj}{w:World}(h:k≠r):(w.putObj r o).heap[k]?=w.heap[k]?:=World.putObj_heap_other h
theorem Qa{p:Prop}[Decidable p]:(decide p=true)=p:=decide_eq_true_eq
theorem Qb.{u}{c:Prop}{h:Decidable c}(hc:c){α:Sort u}{t e:α}:ite c t e=t:=if_pos hc
theorem Qc.{u}{c:Prop}{h:Decidable c}(hn:¬c){α:Sort u}{t e:α}:ite c t e=e:=if_neg hn
theorem Qd.{u,v}{α:Sort u}{β:Sort v}{a b:α}(f:α->β)(h:a=b):f a=f b:=congrArg f h
def bK(w:World):Type:={ x:World // Below w.heap.size w x }
def bK.w{w:World}(g:bK w):World:=g.1
theorem bK.below{w:World}(g:bK w):Below w.heap.size w g.w:=g.2
instance (w:World):Nonempty (bK w):=⟨⟨w,vQ _ _⟩⟩
theorem bK.cell{w:World}(g:bK w)(p:Addr)(h:p.block<w.heap.size):g.w.cell? p=w.cell? p:=g.2.cell h
theorem bK.frozen{w:World}(g:bK w)(p:Addr)(h:p.block<w.heap.size):g.w.frozen? p=w.frozen? p:=g.2.frozen h
theorem bK.size{w:World}(g:bK w):w.heap.size<=g.w.heap.size:=g.2.size
def zr(w:World)(w':World):Prop:=∃ g:bK w,w'=g.w
theorem zr.of{w w':World}(h:Below w.heap.size w w'):zr w w':=⟨⟨w',h⟩,rfl⟩
theorem Calls.grow_of{P:Program}{f:FuncId}{args:Array Value}{w:World}{g:bK w}{v:Value}
 (h:Calls P f args g.w λe w'=>e = .returned v/\Below g.w.heap.size g.w w'):Calls P f args g.w λe w''=>e = .returned v/\∃ g':bK w,w''=g'.w:=
 h.mono λ_ w' ⟨he,hm⟩=>⟨he,⟨w',g.2.trans (hm.mono g.2.size)⟩,rfl⟩
section
variable {P:Program}
theorem f9{id:Nat}{Q:Exit->Act->World->Prop}{a:Act}{w:World}{l:List Oper}(hm:P.follows .mixedOrders=true)(hB:Region.lexB .any l.toArray=true)
 (h:wpQuiet P l.toArray (λw'=>∃ g:bK w,w'=g.w) (λa'=>∀ w',(∃ g:bK w,w'=g.w)->Q .normal a' w') l a):(Code.region id l.toArray true).wp P Q a w:=
 wp_region_quiet (C:=λw'=>∃ g:bK w,w'=g.w) hm hB ⟨⟨_,(vQ w.heap.size w).drew⟩,rfl⟩ (by simpa using h)
end
theorem s5{W w1:World}(hb:Below W.heap.size W w1):(∀ b o,b<W.heap.size->w1.cell? ⟨b,o,none⟩=W.cell? ⟨b,o,none⟩)/\(∀ b o,b<W.heap.size->w1.frozen? ⟨b,o,none⟩=W.frozen? ⟨b,o,none⟩):=
 ⟨λb o h=>hb.cell (p:=⟨b,o,none⟩) h,λb o h=>hb.frozen (p:=⟨b,o,none⟩) h⟩
theorem ag{a b:Bool}(h:a=b):Ending.returned (.bool a) = .returned (.bool b):=by rw[h]
theorem ja{k:IntKind}{a b:Int}(h:a=b):Ending.returned (.int k a) = .returned (.int k b):=by rw[h]
theorem aZ(s:ByteArray):s.data.toList.length=s.size:=rfl
theorem x9(s:ByteArray)(k:Nat)(h:k<s.size):s.data.toList[k]?=some s[k]:=by
 rw[aQ (by rw[aZ];exact h)];rfl
theorem Bt(s:ByteArray)(h:0<s.size):s.data.toList.head?=some s[0]:=by
 rw[List.head?_eq_getElem?];exact x9 s 0 h
theorem EK(s:ByteArray)(h:s.size - 1<s.size):s.data.toList.getLast?=some s[s.size - 1]:=by
 rw[List.getLast?_eq_getElem?,aZ];exact x9 s _ h
theorem J3(s:ByteArray)(k:Nat)(h:k<s.size):s.data.toList.take (k+1)=s.data.toList.take k ++ [s[k]]:=by
 rw[fQ (by simpa using h)];rfl
theorem Ff(s:ByteArray)(k:Nat)(h:s.size<=k):s.data.toList.take k=s.data.toList:=kQ (by rw[aZ];exact h)
theorem ot(c:UInt8)(n:Nat)(hn:n<256):(c == UInt8.ofNat n)=decide ((c.toNat:Int)=n):=by
 rw[Bool.eq_iff_iff];simp only[beq_iff_eq,Qa];constructor
 ·rintro rfl;simp;omega
 ·intro h;apply UInt8.toNat_inj.1;simp;omega
theorem zg(c:UInt8):0<=(c.toNat:Int)/\(c.toNat:Int)<=255:=by have:=UInt8.toNat_lt c;omega
theorem lH{s t:ByteArray}(h:s.data.toList=t.data.toList):s=t:=by
 cases s;cases t;simp only at h |-;congr 1;exact Array.toList_inj.1 h
theorem Ht(s:ByteArray)(i j:Nat):(s.extract i j).data.toList=(s.data.toList.take j).drop i:=by
 rw[ByteArray.data_extract];simp[Array.toList_extract,List.extract_eq_take_drop,List.drop_take]
theorem DH(s:ByteArray)(i:Nat):(s.extract i s.size).data.toList=s.data.toList.drop i:=by
 rw[Ht,kQ (by rw[aZ];exact bQ _)]
theorem DI(s:ByteArray)(j:Nat):(s.extract 0 j).data.toList=s.data.toList.take j:=by rw[Ht];rfl
theorem RV{P:Program}{id:Nat}{Q:Exit->Act->World->Prop}{a:Act}{w:World}{l:List Oper}(n:Nat)(hm:P.follows .mixedOrders=true)(hB:Region.lexTailB .any l.toArray n=true)
 (h:wpStill P l.toArray w.drew (λa'=>wpList P l.toArray Q (l.drop n) a' w.drew) (l.take n) a):(Code.region id l.toArray true).wp P Q a w:=wp_region_still_tail n hm hB h
theorem Calls.still_same{P:Program}{f:FuncId}{args:Array Value}{w:World}{v:Value}(h:Calls P f args w λe w'=>e = .returned v/\w=w'):Calls P f args w λe w''=>e = .returned v/\w''=w:=
 h.mono λ_ _ ⟨he,hw⟩=>⟨he,hw.symm⟩
def ai(w:World)(b o:Nat)(e:List Value):Prop:=∀ j v,e[j]?=some v->w.cell? ⟨b,o+j,none⟩=some v
theorem ai.keep{w w':World}{b o:Nat}{e:List Value}{B:Nat}(h:ai w b o e)(hb:Below B w w')(hB:b<B):ai w' b o e:=
 λj v hj=>(hb.cell (p:=⟨b,o+j,none⟩) hB).trans (h j v hj)
def SlR{α:Type}(R:World->Nat->List Value->α->Prop)(sz:Nat)(w:World)(B:Nat)(v:Value)(xs:List α):Prop:=
 ∃ (A:Option Addr) (c:Nat),v = .slice A xs.length c/\xs.length<=c/\xs.length<=140737488355328/\∀ i x,xs[i]?=some x->∃ b o e,A=some ⟨b,o,none⟩/\b<B/\e.length=sz/\ai w b (o+i * sz) e/\R w B e x
def dl{α:Type}(R:World->Nat->List Value->α->Prop):Prop:=∀ w w' B e x,R w B e x->Below B w w'->R w' B e x
theorem SlR.keep{α:Type}{R:World->Nat->List Value->α->Prop}{sz:Nat}{w w':World}{B:Nat}{v:Value}{xs:List α}(hR:dl R)(h:SlR R sz w B v xs)(hb:Below B w w'):SlR R sz w' B v xs:=by
 obtain⟨A,c,hv,hc,hl,he⟩:=h;refine⟨A,c,hv,hc,hl,λi x hx=>?_⟩;obtain⟨b,o,e,hA,hB,bV,hce,hr⟩:=he i x hx;exact⟨b,o,e,hA,hB,bV,hce.keep hb hB,hR _ _ _ _ _ hr hb⟩
def dJ{α:Type}(R:World->Nat->List Value->α->Prop):Prop:=∀ w B B' e x,R w B e x->B<=B'->R w B' e x
theorem SlR.more{α:Type}{R:World->Nat->List Value->α->Prop}{sz:Nat}{w:World}{B B':Nat}{v:Value}{xs:List α}(hR:dJ R)(h:SlR R sz w B v xs)(hB:B<=B'):SlR R sz w B' v xs:=by
 obtain⟨A,c,hv,hc,hl,he⟩:=h;refine⟨A,c,hv,hc,hl,λi x hx=>?_⟩;obtain⟨b,o,e,hA,hb,bV,hce,hr⟩:=he i x hx;exact⟨b,o,e,hA,by omega,bV,hce,hR _ _ _ _ _ hr hB⟩
end
namespace Np
def qk(c:UInt8):Bool:=97<=c&&c<=122
def nh(c:UInt8):Bool:=48<=c&&c<=57
def mj(c:UInt8):Bool:=qk c||nh c||c == 45
def cg(l:List UInt8):Bool:=decide (1<=l.length)&&decide (l.length<=12)&&!(l.head? == some 45)&&!(l.getLast? == some 45)&&l.all mj
def Hc(l:List UInt8)(c:UInt8)(r:Int):Prop:=(r = -1/\c∉l)\/∃ a b,l=a++c::b/\c∉b/\r=a.length
def aW:List UInt8->List (List UInt8)
 | []=>[[]]
 | c::r=>if c=46 then []::aW r else match aW r with
   | x::xs=>(c::x)::xs
   | []=>[[c]]
theorem qs(l:List UInt8):aW l≠[]:=by
 cases l with
 | nil=>simp[aW]
 | cons c r=>
  unfold aW;split
  ·simp
  ·split <;> simp
theorem za{l:List UInt8}(h:46∉l):aW l = [l]:=by
 induction l with
 | nil=>rfl
 | cons c r ih=>
  have h1:c≠46:=λe=>h (by simp[e]);have h2:46∉r:=λe=>h (by simp[e]);unfold aW;rw[Qc h1,ih h2]
theorem CA(a b:List UInt8):aW (a++46::b)=aW a++aW b:=by
 induction a with
 | nil=>simp[aW]
 | cons c r ih=>
  rw[List.cons_append];by_cases h:c=46
  ·rw[aW,Qb h,aW,Qb h,ih];rfl
  ·rw[aW,Qc h,aW,Qc h,ih];have hne:=qs r
   cases hr:aW r with
   | nil=>exact absurd hr hne
   | cons x xs=>rfl
def back(l:List UInt8):List (List UInt8):=if l = [46] then [] else (aW l).reverse
def fh:List (List UInt8)->Nat->Bool->Bool
 | [],_,_=>true
 | x::xs,n,wild=>if wild||decide (8<n+1) then false else if x = [42] then fh xs (n+1) true else if cg x then fh xs (n+1) false else false
def aG(l:List UInt8):Bool:=if l = [46] then true else if 60<l.length then false else fh (aW l).reverse 0 false
theorem JY{l y:List UInt8}(h:y∈aW l):y.length<=l.length:=by
 induction l generalizing y with
 | nil=>simp[aW] at h;subst h;simp
 | cons c r ih=>
  unfold aW at h;split at h
  ·rcases List.mem_cons.1 h with e | e
   ·subst e;simp
   ·have:=ih e;simp;omega
  ·split at h
   ·rename_i x xs hx;rcases List.mem_cons.1 h with e | e
    ·subst e;have:=ih (y:=x) (by rw[hx];simp);simp;omega
    ·have:=ih (y:=y) (by rw[hx];simp[e]);simp;omega
   ·simp at h;subst h;simp
theorem Dy{l y:List UInt8}(h:y∈back l):y.length<=l.length:=by
 unfold back at h;split at h
 ·cases h
 ·exact JY (List.mem_reverse.1 h)
def nO(c:UInt8):Bool:=qk c||nh c||c == 32
def jC(l:List UInt8):Bool:=decide (1<=l.length)&&decide (l.length<=40)&&!(l.head? == some 32)&&!(l.getLast? == some 32)&&l.all nO
def eh(l:List UInt8):Bool:=l.head? == some 42
structure Rule where
 text:Int
 leastN:Int
 mostN:Int
 leastM:Int
 mostM:Int
 even:Bool
 single:Bool
 wild:Bool
structure Datum where
 text:List UInt8
 n:Int
 m:Int
deriving DecidableEq
def xb(k:Int)(l:List UInt8):Bool:=if k=1 then aG l&&!eh l else if k=2 then aG l else if k=3 then jC l else l == []
def jG(r:Rule)(d:Datum):Bool:=
 (decide (r.leastN<=d.n)&&decide (d.n<=r.mostN))&&(decide (r.leastM<=d.m)&&decide (d.m<=r.mostM))&&!(r.even&&(d.n.tmod 2 != 0))&&xb r.text d.text
def cm(a b:List UInt8):Int:=if Go.Op.bytesLess a b then -1 else if a=b then 0 else 1
def cr(a b:Int):Int:=if a<b then -1 else if b<a then 1 else 0
def pM(a b:Datum):Int:=if cm a.text b.text≠0 then cm a.text b.text else if cr a.n b.n≠0 then cr a.n b.n else cr a.m b.m
def rules:List Rule:=[⟨0,0,0,0,0,false,false,false⟩,⟨0,1,1000000,0,0,false,false,true⟩,⟨1,0,0,0,0,false,false,false⟩,⟨1,0,0,0,0,false,true,false⟩,⟨0,0,65535,0,100000,false,true,false⟩,
 ⟨3,0,0,0,0,false,false,true⟩,⟨0,1,1000000,1,3,false,false,false⟩,⟨0,1,1000000,1,3,false,false,false⟩,⟨2,2,510,0,0,true,false,true⟩]
def bT(k:Int):Rule:=rules.getD k.toNat ⟨0,0,0,0,0,false,false,false⟩
structure DSet where
 name:List UInt8
 type:Int
 life:Int
 data:List Datum
deriving DecidableEq
def iR(r:Rule):Option Datum->List Datum->Bool
 | _,[]=>true
 | p,d::ds=>jG r d&&(match p with | none=>true | some q=>decide (pM q d<0))&&iR r (some d) ds
def dj(s:DSet):Bool:=
 aG s.name&&(decide (1<=s.type)&&decide (s.type<=8))&&(decide (0<=s.life)&&decide (s.life<=100000))&&(decide (1<=s.data.length)&&decide (s.data.length<=8)) &&
 !((bT s.type).single&&decide (s.data.length≠1))&&!(eh s.name&&!(bT s.type).wild)&&iR (bT s.type) none s.data
theorem Nd{r:Rule}{p:Option Datum}{ds:List Datum}{j:Nat}{d:Datum}(hd:ds[j]?=some d)(h:jG r d=false):iR r p (ds.drop j)=false:=by
 rw[sQ (cQ.1 hd).1,(cQ.1 hd).2];simp[iR,h]
theorem Nf{r:Rule}{ds:List Datum}{d:Datum}(hd:ds[0]?=some d)(h:jG r d=true):iR r (ds.take 0).getLast? (ds.drop 0)=iR r (ds.take 1).getLast? (ds.drop 1):=by
 cases ds with
 | nil=>simp at hd
 | cons x r=>simp at hd;subst hd;simp[iR,h]
theorem Ng{r:Rule}{ds:List Datum}{j:Nat}{q d:Datum}(hq:ds[j]?=some q)(hd:ds[j+1]?=some d)(h:jG r d=true) :
 iR r (ds.take (j+1)).getLast? (ds.drop (j+1))=if pM q d<0 then iR r (ds.take (j+1+1)).getLast? (ds.drop (j+1+1)) else false:=by
 have h1:=(cQ.1 hq);have h2:=(cQ.1 hd);rw[sQ h2.1,h2.2,fQ h1.1,h1.2,fQ h2.1,h2.2];simp only[List.getLast?_append,List.getLast?_singleton,Option.some_or,iR,h];split <;> rename_i hc <;> simp[hc]
end Np
section
open Go.RowKit
theorem PH(c:UInt8):Np.mj c=decide ((97<=(c.toNat:Int)/\(c.toNat:Int)<=122)\/(48<=(c.toNat:Int)/\(c.toNat:Int)<=57)\/(c.toNat:Int)=45):=by
 have h:=ot c 45 (by decide);unfold Np.mj Np.qk Np.nh;rw[show (45:UInt8)=UInt8.ofNat 45 from rfl,h,Bool.eq_iff_iff];simp[UInt8.le_iff_toNat_le];omega
theorem ZH(s:ByteArray)(h:(s.size:Int)<1):Np.cg s.data.toList=false:=by
 have:¬ 1<=s.size:=by omega
 simp[Np.cg,this]
theorem ZI(s:ByteArray)(h:12<(s.size:Int)):Np.cg s.data.toList=false:=by
 have:¬ s.size<=12:=by omega
 simp[Np.cg,this]
theorem ZJ(s:ByteArray)(h0:0<s.size)(h:(s[0].toNat:Int)=45):Np.cg s.data.toList=false:=by
 have e:=ot s[0] 45 (by decide);rw[uQ (by simpa using h)] at e;have e2:s[0]=(45:UInt8):=by simpa using e
 simp[Np.cg,Bt s h0,e2]
theorem ZK(s:ByteArray)(h0:s.size - 1<s.size)(h:(s[s.size - 1].toNat:Int)=45):Np.cg s.data.toList=false:=by
 have e:=ot s[s.size - 1] 45 (by decide);rw[uQ (by simpa using h)] at e;have e2:s[s.size - 1]=(45:UInt8):=by simpa using e
 simp[Np.cg,EK s h0,e2]
theorem ZL(s:ByteArray)(k:Nat)(hk:k<s.size)(h:Np.mj s[k]=false):Np.cg s.data.toList=false:=by
 have:s.data.toList.all Np.mj=false:=by
  rw[List.all_eq_false];exact⟨s[k],by rw[<-cQ.1 (x9 s k hk) |>.2];exact List.getElem_mem _,by simp[h]⟩
 simp[Np.cg,this]
theorem ZM(s:ByteArray)(h1:1<=s.size)(h2:s.size<=12)(h3:¬ (s[0].toNat:Int)=45)(h4:¬ (s[s.size - 1].toNat:Int)=45)(h5:s.data.toList.all Np.mj=true):Np.cg s.data.toList=true:=by
 have e:=ot s[0] 45 (by decide);have e':=ot s[s.size - 1] 45 (by decide);rw[tQ (by simpa using h3)] at e;rw[tQ (by simpa using h4)] at e';have e2:¬ s[0]=(45:UInt8):=by simpa using e
 have e3:¬ s[s.size - 1]=(45:UInt8):=by simpa using e'
 simp[Np.cg,EK s (by omega),Bt s (by omega),e2,e3,h5,h1,h2]
theorem Hj(s:ByteArray)(k:Nat)(h:k<s.size)(p:UInt8->Bool)(h1:(s.data.toList.take k).all p=true)(h2:p s[k]=true):(s.data.toList.take (k+1)).all p=true:=by
 rw[J3 s k h,List.all_append,h1];simp[h2]
theorem ZN(s:ByteArray)(hs:s.size<=140737488355328)(w:World) :
 Calls prog 245 #[.string s] w λe w'=>e = .returned (.bool (Np.cg s.data.toList))/\w=w':=by
 go_enter func245,ntmps245;go_wp2
 ·go_ret;exact⟨ag (ZH s ‹_›).symm,rfl⟩
 ·go_ret;exact⟨ag (ZI s ‹_›).symm,rfl⟩
 ·go_ret;exact⟨ag (ZJ s ‹_› ‹_›).symm,rfl⟩
 ·have h:((s[s.size - 1].toNat:Int) == 45)=true:=by assumption
  go_ret;exact⟨ag (ZK s (by omega) (by simpa using h)).symm,rfl⟩
 ·have h1:1<=(s.size:Int):=by assumption
  have h2:(s.size:Int)<=12:=by assumption
  have h3:¬ (s[0].toNat:Int)=45:=by assumption
  have h4:((s[s.size - 1].toNat:Int) == 45)=false:=by assumption
  have H4:=jq h4;clear h4;have H3:=jq h3;go_loop [28] (λi=>∃ k:Nat,k<=s.size/\i = .int .i64 k/\(s.data.toList.take k).all Np.mj=true) (λi=>s.size - (intOf i).toNat)
  case atStart=>exact⟨0,jQ _,rfl,rfl⟩
  case round=>
   obtain⟨k,hk,rfl,ha⟩:=hrel;have HA:=jq ha;clear ha;by_cases aa:k<s.size
   ·have hb:=zg s[k];go_wp2
    all_goals first
     | (have hne:((s[k].toNat:Int) != 45)=true:=by assumption
        have BO:=bne_iff_ne.1 hne;go_ret;exact⟨ag (ZL s k aa (by rw[PH];exact tQ (by omega))).symm,rfl⟩)
     | (have hl:Np.mj s[k]=true:=by
         rw[PH];refine uQ ?_
         first
          | omega
          | (have hne:((s[k].toNat:Int) != 45)=false:=by assumption
             have BO:(s[k].toNat:Int)=45:=by simpa using hne
             omega)
        go_round
        case rel=>exact⟨k+1,by omega,by go_num,Hj s k aa _ HA.out hl⟩
        case measure=>simp[intOf] <;> omega)
   ·go_wp2;go_ret;exact⟨ag (ZM s (by omega) (by omega) H3.out (by simpa using H4.out) (by have:=HA.out;rwa [Ff s k (by omega)] at this)).symm,rfl⟩
theorem aDZ(c:Int)(h0:0<=c)(h1:c<=255)(x:UInt8):x=UInt8.ofNat c.toNat↔(x.toNat:Int)=c:=by
 have h:=ot x c.toNat (by omega);rw[Bool.eq_iff_iff] at h;simp only[beq_iff_eq,Qa] at h;rw[h];omega
theorem Z9(s:ByteArray)(c:UInt8)(h:c∉s.data.toList.drop 0):Np.Hc s.data.toList c (-1):=.inl ⟨rfl,by simpa using h⟩
theorem aaQ(s:ByteArray)(c:UInt8)(k:Nat)(hk:k<s.size)(h:c∉s.data.toList.drop (k+1))(hc:s[k]=c):Np.Hc s.data.toList c (k:Int):=by
 refine .inr ⟨s.data.toList.take k,s.data.toList.drop (k+1),?_,h,?_⟩
 ·subst hc;rw[show s[k]=s.data.toList[k]'(by rw[aZ];exact hk) from rfl,<-sQ,List.take_append_drop]
 ·simp;have:=aZ s;simp at this;omega
theorem VQ(s:ByteArray)(c:UInt8)(k:Nat)(hk:k<s.size)(h:c∉s.data.toList.drop (k+1))(hc:¬ s[k]=c):c∉s.data.toList.drop k:=by
 rw[sQ (by rw[aZ];exact hk)];intro hm;rcases List.mem_cons.1 hm with e | e
 ·exact hc e.symm
 ·exact h e
def Ks(s:ByteArray)(c:UInt8)(w:World)(e:Ending)(w':World):Prop:=∃ r:Int,Np.Hc s.data.toList c r/\e = .returned (.int .i64 r)/\w=w'
theorem aaZ(s:ByteArray)(hs:s.size<=140737488355328)(c:Int)(h0:0<=c)(h1:c<=255)(w:World) :
 Calls prog 345 #[.string s,.int .u8 c] w (Ks s (UInt8.ofNat c.toNat) w):=by
 go_enter func345,ntmps345;go_wp2;go_loop [5] (λi=>∃ k:Int,-1<=k/\k<s.size/\i = .int .i64 k/\Hid (UInt8.ofNat c.toNat∉s.data.toList.drop (k+1).toNat)) (λi=>(intOf i+1).toNat)
 case atStart=>exact⟨_,by omega,by omega,rfl,jq (by rw[List.drop_eq_nil_of_le (by rw[aZ];omega)];simp)⟩
 case round=>
  obtain⟨k,bX,bW,rfl,H⟩:=hrel;by_cases aa:0<=k
  ·obtain⟨j,rfl⟩:=Int.eq_ofNat_of_zero_le aa;have hj:j<s.size:=by omega
   have hb:=zg s[j];have hd:=aDZ c h0 h1 s[j];have HD:=jq hd;clear hd;go_wp2
   all_goals first
    | (have he:((s[j].toNat:Int) == c)=true:=by assumption
       go_ret;exact⟨j,aaQ s _ j hj (by simpa using H.out) (HD.out.2 (by simpa using he)),rfl,rfl⟩)
    | (have he:((s[j].toNat:Int) == c)=false:=by assumption
       go_round
       case rel=>exact⟨(j:Int) - 1,by omega,by omega,rfl,jq (by have:=VQ s _ j hj (by simpa using H.out) (λe=>by have:=HD.out.1 e;simp[this] at he);simpa using this)⟩
       case measure=>simp[intOf] <;> omega)
  ·obtain rfl:k = -1:=by omega
   go_wp2;go_ret;exact⟨-1,Z9 s _ (by simpa using H.out),rfl,rfl⟩
theorem JF(s:ByteArray)(hs:s.size<=140737488355328)(c:Int)(h0:0<=c)(h1:c<=255)(w:World) :
 Calls prog 298 #[.string s,.int .u8 c] w (Ks s (UInt8.ofNat c.toNat) w):=by
 go_enter func298,ntmps298;go_wp2_with (go_at_call 345;refine (aaZ _ hs _ h0 h1 _).mono ?_;rintro e w' ⟨r,hr,rfl,rfl⟩);go_ret;exact⟨r,hr,rfl,rfl⟩
end
namespace D
open Go.RowKit
structure Below(B:Nat)(w w':World):Prop where
 os:w'.os=w.os
 tape:w'.tape=w.tape
 output:w'.output=w.output
 size:w.heap.size<=w'.heap.size
 block:∀ k,k<B->w'.heap[k]?=w.heap[k]?
 drawn:w.drawn<=w'.drawn
theorem Below.low{B:Nat}{w w':World}(h:Below B w w'):Go.RowKit.Below B w w':=⟨h.os,h.tape,h.output,h.size,h.block⟩
theorem vQ(B:Nat)(w:World):Below B w w:=⟨rfl,rfl,rfl,bQ _,λ_ _=>rfl,bQ _⟩
theorem Below.trans{B:Nat}{a b c:World}(h:Below B a b)(k:Below B b c):Below B a c:=
 ⟨k.os.trans h.os,k.tape.trans h.tape,k.output.trans h.output,yQ h.size k.size,λi hi=>(k.block i hi).trans (h.block i hi),yQ h.drawn k.drawn⟩
theorem Below.mono{B B':Nat}{w w':World}(h:Below B w w')(hB:B'<=B):Below B' w w':=⟨h.os,h.tape,h.output,h.size,λk hk=>h.block k (lQ hk hB),h.drawn⟩
theorem Below.drew{B:Nat}{a w:World}(h:Below B a w):Below B a w.drew:=⟨h.os,h.tape,h.output,h.size,h.block,Nat.le_succ_of_le h.drawn⟩
theorem Below.heap_alloc(w:World)(o:Obj)(k:Nat)(h:k<w.heap.size):(w.alloc o).heap[k]?=w.heap[k]?:=Go.RowKit.Below.heap_alloc w o k h
theorem wQ(w:World)(a:Addr)(u:Value)(k:Nat)(h:k≠a.block):(w.setCell a u).heap[k]?=w.heap[k]?:=Go.RowKit.Below.heap_setCell w a u k h
theorem Below.alloc{B:Nat}{a w:World}(h:Below B a w)(hB:B<=w.heap.size)(o:Obj):Below B a (w.alloc o):=
 h.trans ⟨rfl,rfl,rfl,by simp,λk hk=>Below.heap_alloc _ _ _ (by omega),bQ _⟩
theorem Below.setCell{B:Nat}{a w:World}(h:Below B a w){p:Addr}(hp:B<=p.block)(u:Value):Below B a (w.setCell p u):=
 h.trans ⟨rfl,rfl,rfl,by simp[World.setCell],λk hk=>wQ _ _ _ _ (by omega),bQ _⟩
theorem Below.cell{B:Nat}{w w':World}(h:Below B w w'){p:Addr}(hp:p.block<B):w'.cell? p=w.cell? p:=h.low.cell hp
theorem Below.frozen{B:Nat}{w w':World}(h:Below B w w'){p:Addr}(hp:p.block<B):w'.frozen? p=w.frozen? p:=h.low.frozen hp
structure ItStep(B:Nat)(S:Nat->Prop)(W W':World):Prop where
 os:W'.os=W.os
 tape:W'.tape=W.tape
 output:W'.output=W.output
 size:W.heap.size<=W'.heap.size
 keep:∀ k,k<W.heap.size->(k<B\/S k)->W'.heap[k]?=W.heap[k]?
 drawn:W.drawn<=W'.drawn
structure RdStep(S:Nat->Prop)(W W':World):Prop where
 os:W'.os=W.os
 tape:W'.tape=W.tape
 output:W'.output=W.output
 size:W.heap.size<=W'.heap.size
 keep:∀ k,k<W.heap.size->¬ S k->W'.heap[k]?=W.heap[k]?
 drawn:W.drawn<=W'.drawn
theorem ItStep.refl(B:Nat)(S:Nat->Prop)(W:World):ItStep B S W W:=⟨rfl,rfl,rfl,bQ _,λ_ _ _=>rfl,bQ _⟩
theorem RdStep.refl(S:Nat->Prop)(W:World):RdStep S W W:=⟨rfl,rfl,rfl,bQ _,λ_ _ _=>rfl,bQ _⟩
theorem ItStep.trans{B:Nat}{S:Nat->Prop}{A W C:World}(h:ItStep B S A W)(k:ItStep B S W C):ItStep B S A C:=
 ⟨k.os.trans h.os,k.tape.trans h.tape,k.output.trans h.output,yQ h.size k.size,λi hi hs=>(k.keep i (lQ hi h.size) hs).trans (h.keep i hi hs),yQ h.drawn k.drawn⟩
theorem RdStep.trans{S S':Nat->Prop}{A W C:World}(h:RdStep S A W)(k:RdStep S' W C)(hS:∀ i,S' i->S i\/A.heap.size<=i):RdStep S A C:=
 ⟨k.os.trans h.os,k.tape.trans h.tape,k.output.trans h.output,yQ h.size k.size,λi hi hs=>
  (k.keep i (lQ hi h.size) (λe=>by rcases hS i e with e | e;exact hs e;omega)).trans (h.keep i hi hs),yQ h.drawn k.drawn⟩
theorem RdStep.mono{S S':Nat->Prop}{A W:World}(h:RdStep S A W)(hS:∀ i,S i->S' i):RdStep S' A W:=
 ⟨h.os,h.tape,h.output,h.size,λi hi hs=>h.keep i hi (λe=>hs (hS i e)),h.drawn⟩
theorem ItStep.of_below{B:Nat}{S:Nat->Prop}{A W:World}(h:Below A.heap.size A W):ItStep B S A W:=
 ⟨h.os,h.tape,h.output,h.size,λk hk _=>h.block k hk,h.drawn⟩
theorem RdStep.of_below{S:Nat->Prop}{A W:World}(h:Below A.heap.size A W):RdStep S A W:=
 ⟨h.os,h.tape,h.output,h.size,λk hk _=>h.block k hk,h.drawn⟩
theorem RdStep.below{S:Nat->Prop}{A W:World}{n:Nat}(h:RdStep S A W)(hn:n<=A.heap.size)(hS:∀ k,S k->n<=k):Below n A W:=
 ⟨h.os,h.tape,h.output,h.size,λk hk=>h.keep k (by omega) (λe=>by have:=hS k e;omega),h.drawn⟩
theorem RdStep.setCell{S:Nat->Prop}{A W:World}(h:RdStep S A W){p:Addr}(hp:S p.block\/A.heap.size<=p.block)(u:Value):RdStep S A (W.setCell p u):=
 ⟨h.os,h.tape,h.output,by simpa [World.setCell] using h.size,λk hk hs=>(wQ _ _ _ _ (by rintro rfl;rcases hp with hp | hp;exact hs hp;omega)).trans (h.keep k hk hs),h.drawn⟩
theorem RdStep.alloc{S:Nat->Prop}{A W:World}(h:RdStep S A W)(o:Obj):RdStep S A (W.alloc o):=
 ⟨h.os,h.tape,h.output,yQ h.size (by simp),λk hk hs=>(Below.heap_alloc _ _ _ (lQ hk h.size)).trans (h.keep k hk hs),h.drawn⟩
theorem RdStep.drew{S:Nat->Prop}{A W:World}(h:RdStep S A W):RdStep S A W.drew:=⟨h.os,h.tape,h.output,h.size,h.keep,Nat.le_succ_of_le h.drawn⟩
theorem RdStep.then_below{S:Nat->Prop}{A W C:World}(h:RdStep S A W)(k:Below W.heap.size W C):RdStep S A C:=
 ⟨k.os.trans h.os,k.tape.trans h.tape,k.output.trans h.output,yQ h.size k.size,λi hi hs=>(k.block i (lQ hi h.size)).trans (h.keep i hi hs),yQ h.drawn k.drawn⟩
def fq{β:Type}(B:Nat)(J:β->(Nat->Prop)->World->Prop):Prop:=∀ s S W W',J s S W->ItStep B S W W'->J s S W'
def Ds{α:Type}(J Jx:List α->(Nat->Prop)->World->Prop)(pre:List α)(x:α)(S:Nat->Prop)(W:World)(e:Ending)(W':World):Prop:=
 ∃ S':Nat->Prop,RdStep S W W'/\(∀ k,S' k->S k\/W.heap.size<=k)/\(∀ k,S' k->k<W'.heap.size)/\
   ((e = .returned (.bool true)/\J (pre ++ [x]) S' W')\/(e = .returned (.bool false)/\Jx (pre ++ [x]) S' W'))
def uT{α:Type}(P:Program)(gf:FuncId)(mk:Value->Array Value)(encs:α->Array Value)(xs:List α)(n₀:Nat)(w:World):Prop:=
 ∀ (l:Nat) (J Jx:List α->(Nat->Prop)->World->Prop) (S:Nat->Prop) (W:World),Below n₀ w W->
   fq W.heap.size J->fq W.heap.size Jx->
   (∀ pre x S1 W1,pre ++ [x] <+: xs->J pre S1 W1->(∀ k,S1 k->k<W1.heap.size)->W.heap.size<=W1.heap.size->
     YieldAt Fence.wide 0 P l (encs x) W1 (Ds J Jx pre x S1 W1))->
   (∀ k,S k->n₀<=k)->(∀ k,S k->k<W.heap.size)->J [] S W->
   CallsIn Fence.wide 0 P gf (mk (.func (.yield l) #[] #[])) W λe W'=>(∃ v,e = .returned v)/\
    ((∃ S',J xs S' W'/\(∀ k,S' k->S k\/W.heap.size<=k))\/(∃ pre S',pre <+: xs/\Jx pre S' W'/\(∀ k,S' k->S k\/W.heap.size<=k)))
def mF{α:Type}(I:List α->(Nat->Prop)->World->Prop)(Ix:Code->List α->(Nat->Prop)->World->Prop)(xs:List α)(S:Nat->Prop)(W:World):Exit->Act->World->Prop
 | .normal,_,W'=>∃ S',RdStep S W W'/\(∀ k,S' k->S k\/W.heap.size<=k)/\(∀ k,S' k->k<W'.heap.size)/\I xs S' W'
 | .ret,_,W'=>∃ S',RdStep S W W'/\(∀ k,S' k->S k\/W.heap.size<=k)/\(∀ k,S' k->k<W'.heap.size)/\Ix .ret xs S' W'
 | .exit id,_,W'=>∃ S',RdStep S W W'/\(∀ k,S' k->S k\/W.heap.size<=k)/\(∀ k,S' k->k<W'.heap.size)/\Ix (.exit id) xs S' W'
 | _,_,_=>False
theorem iX{B:Nat}{S:Nat->Prop}{W:World}{l:Nat}(o:Obj)(hl:B<=l)(hS:¬ S l):ItStep B S W (W.putObj l o):=
 ⟨rfl,rfl,rfl,by simp,λk _ hk=>zQ (by rintro rfl;rcases hk with hk | hk;omega;exact hS hk),bQ _⟩
theorem tW{B:Nat}{S:Nat->Prop}{W:World}(o:Obj):ItStep B S W (W.alloc o):=
 ⟨rfl,rfl,rfl,by simp,λk hk _=>Below.heap_alloc _ _ _ hk,bQ _⟩
theorem ItStep.weaken{B B':Nat}{S S':Nat->Prop}{W W':World}(h:ItStep B S W W')(hB:B'<=B)(hS:∀ k,S' k->S k):ItStep B' S' W W':=
 ⟨h.os,h.tape,h.output,h.size,λk hk hs=>h.keep k hk (hs.imp (λe=>by omega) (hS k)),h.drawn⟩
theorem Kl{α:Type}{P:Program}{g:Operand}{ps:Array Tmp}{assign body:Code}{Q:Exit->Act->World->Prop}{a:Act}{w:World}
 {gf:FuncId} {first captured:Array Value} (hg:a.eval g = .func (.func gf) first captured) (eg:∀ args w,(callFunc gf args).run P w = .ok (.enter gf args) w)
 {mk:Value->Array Value} {encs:α->Array Value} {xs:List α} {n₀:Nat} {w0:World} (fX:∀ y,mk y=first ++ #[y]++captured)
 (hit:uT P gf mk encs xs n₀ w0) (cC:Below n₀ w0 w) (mU:n₀<=w.heap.size) (fY:∀ x,(encs x).size=ps.size)
 (I:List α->(Nat->Prop)->World->Prop) (Ix:Code->List α->(Nat->Prop)->World->Prop) (A:List α->α->(Nat->Prop)->Act->World->Prop)
 (hI:fq w.heap.size I) (iw:∀ c,fq w.heap.size (Ix c)) (hA:∀ pre x S a' W W',A pre x S a' W->ItStep w.heap.size S W W'->A pre x S a' W')
 (S0:Nat->Prop) (oU:∀ k,S0 k->n₀<=k) (jZ:∀ k,S0 k->k<w.heap.size) (h0:I [] S0 w)
 (Bd:∀ (l:Nat) (pre:List α) (x:α) (S:Nat->Prop) (W:World),pre ++ [x] <+: xs->I pre S W->(∀ k,S k->k<W.heap.size)->
   assign.wpIn (Fence.wide.inRound l) 0 P (Exit.then (λa₁ W₁=>∃ S',RdStep S W W₁/\(∀ k,S' k->S k\/W.heap.size<=k)/\(∀ k,S' k->k<W₁.heap.size)/\A pre x S' a₁ W₁) (λ_ _ _=>False))
    { tmps:=(ps.zip (encs x)).foldl (λt (p,v)=>t.setIfInBounds p v) a.tmps,defers:=[] } W)
 (Bj:∀ (l:Nat) (pre:List α) (x:α) (S:Nat->Prop) (a₁:Act) (W:World),pre ++ [x] <+: xs->A pre x S a₁ W->(∀ k,S k->k<W.heap.size)->
   body.wpIn (Fence.wide.inRound l) 0 P (mF I Ix (pre ++ [x]) S W) a₁ W)
 (lu:∀ (D:Nat) (S:Nat->Prop) (W:World),w.heap.size<=D->¬ S D->(∀ k,S k->S0 k\/w.heap.size<=k)->I xs S W->W.heap[D]?=some (.deferred (some []))->
   Q .normal { a with defers:={ target:=.collected D,args:=#[] } :: a.defers } W)
 (iV:∀ (D:Nat) (c:Code) (pre:List α) (S:Nat->Prop) (W:World),w.heap.size<=D->¬ S D->(∀ k,S k->S0 k\/w.heap.size<=k)->pre <+: xs->Ix c pre S W->W.heap[D]?=some (.deferred (some []))->
   c.wpIn Fence.wide 0 P Q { a with defers:={ target:=.collected D,args:=#[] } :: a.defers } W) :
 (Code.rangeFunc g ps assign body).wpIn Fence.wide 0 P Q a w:=by
 refine wpIn_rangeFunc ?_;intro fn iT;show ∃ (l:Nat) (mark:List Deferred) (w₁:World) (d:Deferred) (w₁':World) (f:FuncId) (args:Array Value) (w₂:World),(Instr.enterLoop fn a.tmps ps assign body none).run P w = .ok (l,mark) w₁/\_;obtain⟨rec,eS⟩:∃ rec:LoopState->Option Code->Loop,rec=λst pe=>{ state:=st,pending:=pe,fn,tmps:=a.tmps,params:=ps,assign,body,defers:=w.heap.size }:=⟨_,rfl⟩;obtain⟨W1,an⟩:∃ W1,(w.alloc (.deferred (some []))).alloc (.loop (rec .ready none))=W1:=⟨_,rfl⟩;have ap:W1.heap.size=w.heap.size+2:=by rw[<-an];simp
 have g9:W1.heap[w.heap.size+1]?=some (.loop (rec .ready none)):=by
  rw[<-an];have:=World.alloc_heap_new (w.alloc (.deferred (some []))) (.loop (rec .ready none));rwa [World.size_alloc] at this
 have AQ:W1.heap[w.heap.size]?=some (.deferred (some [])):=by
  rw[<-an];exact (Below.heap_alloc _ _ _ (by simp)).trans (World.alloc_heap_new w _)
 have lW:I [] S0 W1:=by rw[<-an];exact hI _ _ _ _ (hI _ _ _ _ h0 (tW _)) (tW _)
 have aw:Below n₀ w0 W1:=by
  rw[<-an];exact cC.trans ((((vQ _ w).alloc (bQ _) _).alloc (by simp) _).mono mU)
 refine⟨w.heap.size+1,[{ target:=.collected w.heap.size,args:=#[] }],W1,{ target:=.fn (.func gf) captured,args:=first ++ #[.func (.yield (w.heap.size+1)) #[] #[]] },W1,gf,
  first ++ #[.func (.yield (w.heap.size+1)) #[] #[]]++captured,W1,?_,?_,?_,?_,λh=>by simp[Fence.wide] at h,?_⟩
 ·rw[<-an,eS];exact run_enterLoop_outer _ _ _ _ _
 ·simp only[resolve,hg];simp[go_sem]
 ·intro f' _;trivial
 ·simp[invoke,go_sem,eg]
 ·rw[<-fX];have key:=hit (w.heap.size+1)
   (λpre Si W=>∃ S:Nat->Prop,(∀ k,Si k↔S k\/k=w.heap.size+1)/\(¬ S w.heap.size)/\(¬ S (w.heap.size+1))/\(∀ k,S k->S0 k\/w.heap.size<=k)/\I pre S W/\W.heap[w.heap.size+1]?=some (.loop (rec .ready none))/\W.heap[w.heap.size]?=some (.deferred (some [])))
   (λpre Si W=>∃ (S:Nat->Prop) (c:Code),(∀ k,Si k↔S k\/k=w.heap.size+1)/\(¬ S w.heap.size)/\(¬ S (w.heap.size+1))/\(∀ k,S k->S0 k\/w.heap.size<=k)/\Ix c pre S W/\W.heap[w.heap.size+1]?=some (.loop (rec .done (some c)))/\W.heap[w.heap.size]?=some (.deferred (some [])))
   (λk=>S0 k\/k=w.heap.size+1) W1 aw ?_ ?_ ?_ ?_ ?_ ?_
  ·refine key.mono ?_;rintro e W2 ⟨⟨v,rfl⟩,(⟨S',⟨S,cJ,hD,hL,bd,hi,hl,hk⟩,_⟩ | ⟨pre,S',fI,⟨S,c,cJ,hD,hL,bd,hi,hl,hk⟩,_⟩)⟩
   ·refine⟨none,_,by have:=run_endLoop (P:=P) hl (by rw[eS];simp);rw[eS] at this;exact this,?_⟩;exact lu _ S _ (bQ _) hD bd (hI _ _ _ _ hi (iX _ (by omega) hL)) ((zQ (by omega)).trans hk)
   ·refine⟨some c,_,by have:=run_endLoop (P:=P) hl (by rw[eS];simp);rw[eS] at this;exact this,?_⟩;exact iV _ c pre S _ (bQ _) hD bd fI ((iw c) _ _ _ _ hi (iX _ (by omega) hL)) ((zQ (by omega)).trans hk)
  ·rintro pre Si A1 B1 ⟨S,cJ,hD,hL,bd,hi,hl,hk⟩ av;have aa:w.heap.size+1<A1.heap.size:=(eQ.1 hl).1;exact⟨S,cJ,hD,hL,bd,hI _ _ _ _ hi (av.weaken (by omega) (λk e=>(cJ k).2 (.inl e))),(av.keep _ aa (.inl (by omega))).trans hl,(av.keep _ (by omega) (.inl (by omega))).trans hk⟩
  ·rintro pre Si A1 B1 ⟨S,c,cJ,hD,hL,bd,hi,hl,hk⟩ av;have aa:w.heap.size+1<A1.heap.size:=(eQ.1 hl).1;exact⟨S,c,cJ,hD,hL,bd,iw c _ _ _ _ hi (av.weaken (by omega) (λk e=>(cJ k).2 (.inl e))),(av.keep _ aa (.inl (by omega))).trans hl,(av.keep _ (by omega) (.inl (by omega))).trans hk⟩
  ·
   rintro pre x Si W bw ⟨S,cJ,hD,hL,bd,hi,hl,hk⟩ eu In;have aa:w.heap.size+1<W.heap.size:=(eQ.1 hl).1;have AY:∀ k,S k->k<W.heap.size:=λk e=>eu k ((cJ k).2 (.inl e));have hy:=run_yield (P:=P) (args:=encs x) hl (by rw[eS];exact fY x);rw[eS] at hy;refine⟨fn,_,assign,body,hy,roundIn_of_wpIn iT (wpIn_mono (Bd _ pre x S W bw hi AY) ?_)⟩;intro e a1 Wa hq
   cases e with
   | normal=>
    obtain⟨S1,fJ,bl,B2,AK⟩:=hq;have tD:¬ S1 w.heap.size:=λe=>by rcases bl _ e with e | e;exact hD e;omega
    have pd:¬ S1 (w.heap.size+1):=λe=>by rcases bl _ e with e | e;exact hL e;omega
    have mS:Wa.heap[w.heap.size+1]?=some (.loop (rec .ready none)):=(fJ.keep _ aa hL).trans hl;have BF:Wa.heap[w.heap.size]?=some (.deferred (some [])):=(fJ.keep _ (by omega) hD).trans hk;have tC:w.heap.size+1<Wa.heap.size:=(eQ.1 mS).1;refine⟨_,run_beginRound mS (by rw[eS]),?_⟩;have hb:=Bj (w.heap.size+1) pre x S1 a1 (Wa.putObj (w.heap.size+1) (.loop { rec .ready none with state:=.busy })) bw (hA _ _ _ _ _ _ AK (iX _ (by omega) pd)) (λk e=>by simpa using B2 k e);refine wpIn_mono hb ?_;have fin:∀ (jump:Option Code) (W3:World) (S3:Nat->Prop),RdStep S1 (Wa.putObj (w.heap.size+1) (.loop { rec .ready none with state:=.busy })) W3->(∀ k,S3 k->S1 k\/(Wa.putObj (w.heap.size+1) (.loop { rec .ready none with state:=.busy })).heap.size<=k)->(∀ k,S3 k->k<W3.heap.size)->
     (Instr.endRound (w.heap.size+1) jump).run P W3 = .ok (.bool jump.isNone) (W3.putObj (w.heap.size+1) (.loop (rec (if jump.isNone then .ready else .done) jump)))/\
     (W3.putObj (w.heap.size+1) (.loop (rec (if jump.isNone then .ready else .done) jump))).heap[w.heap.size+1]?=some (.loop (rec (if jump.isNone then .ready else .done) jump))/\
     (W3.putObj (w.heap.size+1) (.loop (rec (if jump.isNone then .ready else .done) jump))).heap[w.heap.size]?=some (.deferred (some []))/\
     ¬ S3 w.heap.size/\¬ S3 (w.heap.size+1)/\(∀ k,S3 k->S k\/W.heap.size<=k)/\
     RdStep Si W (W3.putObj (w.heap.size+1) (.loop (rec (if jump.isNone then .ready else .done) jump))):=λjump W3 S3 cF cY cG=>by
     have dF:(Wa.putObj (w.heap.size+1) (.loop { rec .ready none with state:=.busy })).heap[w.heap.size+1]?=some (.loop { rec .ready none with state:=.busy }):=World.putObj_heap_same tC;have jw:(Wa.putObj (w.heap.size+1) (.loop { rec .ready none with state:=.busy })).heap[w.heap.size]?=some (.deferred (some [])):=(zQ (by omega)).trans BF;have mR:=(cF.keep _ (by simpa using tC) pd).trans dF;have l6:=(cF.keep _ (by simp;omega) tD).trans jw;have pa:=(eQ.1 mR).1
     have:=run_endRound (P:=P) jump mR
     rw[eS] at this |-;have kJ:=cF.size;have qf:=fJ.size;simp only[World.putObj_size] at kJ cY;refine⟨this,World.putObj_heap_same pa,(zQ (by omega)).trans l6,λe=>?_,λe=>?_,λk e=>?_,?_⟩
     ·rcases cY _ e with e | e;exact tD e;omega
     ·rcases cY _ e with e | e;exact pd e;omega
     ·rcases cY _ e with e | e
      ·exact bl _ e
      ·right;omega
     ·refine⟨cF.os.trans fJ.os,cF.tape.trans fJ.tape,cF.output.trans fJ.output,by simp;omega,λk hk' tE=>?_,yQ fJ.drawn cF.drawn⟩;have l7:k≠w.heap.size+1:=λe=>tE ((cJ k).2 (.inr e));have tF:¬ S k:=λe=>tE ((cJ k).2 (.inl e));have BN:¬ S1 k:=λe=>by rcases bl _ e with e | e;exact tF e;omega
      exact (zQ l7).trans ((cF.keep k (by simp;omega) BN).trans ((zQ l7).trans (fJ.keep k hk' tF)))
    have fin2:∀ (S3:Nat->Prop) (W3:World) (o:Obj),(∀ k,S3 k->k<W3.heap.size)->W.heap.size<=W3.heap.size->(∀ k,S3 k->S k\/W.heap.size<=k)->
     (∀ k,(S3 k\/k=w.heap.size+1)->Si k\/W.heap.size<=k)/\(∀ k,(S3 k\/k=w.heap.size+1)->k<(W3.putObj (w.heap.size+1) o).heap.size):=λS3 W3 o h1 h2 h3=>
     ⟨λk e=>by rcases e with e | e;exact (h3 k e).imp (λe'=>(cJ k).2 (.inl e')) id;exact .inl ((cJ k).2 (.inr e)),λk e=>by
      simp only[World.putObj_size];rcases e with e | e
      ·exact h1 k e
      ·omega⟩
    have sub3:∀ (S3:Nat->Prop),(∀ k,S3 k->S k\/W.heap.size<=k)->∀ k,S3 k->S0 k\/w.heap.size<=k:=λS3 h k e=>by
     rcases h k e with e | e
     ·exact bd k e
     ·right;omega
    rintro e a3 W3 hp
    cases e with
    | normal=>
     obtain⟨S3,cF,cY,cG,kb⟩:=hp;obtain⟨hr,kc,jx,gF,fG,dt,aJ⟩:=fin none W3 S3 cF cY cG;have ap:W.heap.size<=W3.heap.size:=by simpa using aJ.size
     refine⟨_,_,hr,λk=>S3 k\/k=w.heap.size+1,aJ,(fin2 S3 W3 (.deferred none) cG ap dt).1,(fin2 S3 W3 _ cG ap dt).2,.inl ⟨rfl,S3,λ_=>Iff.rfl,gF,fG,sub3 S3 dt,hI _ _ _ _ kb (iX _ (by omega) fG),kc,jx⟩⟩
    | ret=>
     obtain⟨S3,cF,cY,cG,kb⟩:=hp;obtain⟨hr,kc,jx,gF,fG,dt,aJ⟩:=fin (some .ret) W3 S3 cF cY cG;have ap:W.heap.size<=W3.heap.size:=by simpa using aJ.size
     refine⟨_,_,hr,λk=>S3 k\/k=w.heap.size+1,aJ,(fin2 S3 W3 (.deferred none) cG ap dt).1,(fin2 S3 W3 _ cG ap dt).2,.inr ⟨rfl,S3,.ret,λ_=>Iff.rfl,gF,fG,sub3 S3 dt,iw _ _ _ _ _ kb (iX _ (by omega) fG),kc,jx⟩⟩
    | exit id=>
     obtain⟨S3,cF,cY,cG,kb⟩:=hp;obtain⟨hr,kc,jx,gF,fG,dt,aJ⟩:=fin (some (.exit id)) W3 S3 cF cY cG;have ap:W.heap.size<=W3.heap.size:=by simpa using aJ.size
     refine⟨_,_,hr,λk=>S3 k\/k=w.heap.size+1,aJ,(fin2 S3 W3 (.deferred none) cG ap dt).1,(fin2 S3 W3 _ cG ap dt).2,.inr ⟨rfl,S3,.exit id,λ_=>Iff.rfl,gF,fG,sub3 S3 dt,iw _ _ _ _ _ kb (iX _ (by omega) fG),kc,jx⟩⟩
    | goto t=>exact hp.elim
    | panic ch=>exact hp.elim
    | outgrown=>exact hp.elim
   | ret=>exact hq.elim
   | exit id=>exact hq.elim
   | goto t=>exact hq.elim
   | panic ch=>exact hq.elim
   | outgrown=>exact hq.elim
  ·rintro k (e | rfl)
   ·exact oU k e
   ·omega
  ·rintro k (e | rfl)
   ·have:=jZ k e;omega
   ·omega
  ·exact⟨S0,λ_=>Iff.rfl,λe=>by have:=jZ _ e;omega,λe=>by have:=jZ _ e;omega,λ_ e=>.inl e,lW,g9,AQ⟩
theorem jU{B:Nat}{S:Nat->Prop}{W W':World}{b:Nat}{t:TypeId}{v:Value}(h:Boxed W b t v)(hs:ItStep B S W W')(hb:S b):Boxed W' b t v:=(hs.keep b h.lt (.inr hb)).trans h
theorem uY{n B:Nat}{S:Nat->Prop}{w W W':World}(h:Below n w W)(hs:ItStep B S W W')(hB:n<=B)(hn:n<=w.heap.size):Below n w W':=
 ⟨hs.os.trans h.os,hs.tape.trans h.tape,hs.output.trans h.output,yQ h.size hs.size,λk hk=>(hs.keep k (by have:=h.size;omega) (.inl (by omega))).trans (h.block k hk),yQ h.drawn hs.drawn⟩
theorem Mw{S:Nat->Prop}{W W':World}{b:Nat}{t:TypeId}{v:Value}(h:Boxed W b t v)(hs:RdStep S W W')(hb:¬ S b):Boxed W' b t v:=(hs.keep b h.lt hb).trans h
theorem cR{n:Nat}{W W':World}{b:Nat}{t:TypeId}{v:Value}(h:Boxed W b t v)(hs:Below n W W')(hb:b<n):Boxed W' b t v:=(hs.block b hb).trans h
theorem eM{W:World}{b:Nat}{t:TypeId}{v:Value}(h:Boxed W b t v){p:Addr}(hp:b≠p.block)(u:Value):Boxed (W.setCell p u) b t v:=(wQ W p u b hp).trans h
theorem ll{P:Program}{fn:Func}{R:Ending->World->Prop}{tmps:Array Value}{w:World}{v:Value}(rM:(results fn tmps).run P w = .ok v w)(hR:R (.returned v) w) :
 bodyPostM Fence.wide 0 P fn R .ret { tmps:=tmps,defers:=[] } w:=⟨_,rM,hR⟩
theorem nN{P:Program}{fn:Func}{R:Ending->World->Prop}{tmps:Array Value}{W:World}{D:Nat}{v:Value}(hK:W.heap[D]?=some (.deferred (some [])))
 (rM:(results fn tmps).run P (W.putObj D (.deferred none)) = .ok v (W.putObj D (.deferred none))) (hR:R (.returned v) (W.putObj D (.deferred none))) :
 bodyPostM Fence.wide 0 P fn R .ret { tmps:=tmps,defers:=[{ target:=.collected D,args:=#[] }] } W:=
 ⟨by simp,.inl ⟨_,_,rfl,run_takeDeferred hK,_,rM,hR⟩⟩
theorem nL{n D:Nat}{w W:World}(h:Below n w W)(hD:n<=D)(o:Obj):Below n w (W.putObj D o):=
 ⟨h.os,h.tape,h.output,by simpa using h.size,λk hk=>(zQ (by omega)).trans (h.block k hk),h.drawn⟩
theorem uZ{W:World}{b D:Nat}{t:TypeId}{v:Value}(h:Boxed W b t v)(hD:b≠D)(o:Obj):Boxed (W.putObj D o) b t v:=(zQ hD).trans h
theorem Fo{α:Type}{P:Program}{g:Operand}{ps:Array Tmp}{assign body:Code}{Q:Exit->Act->World->Prop}{a:Act}{w:World}
 {gf:FuncId} {first captured:Array Value} (hg:a.eval g = .func (.func gf) first captured) (eg:∀ args w,(callFunc gf args).run P w = .ok (.enter gf args) w)
 {mk:Value->Array Value} {encs:α->Array Value} {xs:List α} {n₀:Nat} {w0:World} (fX:∀ y,mk y=first ++ #[y]++captured)
 (hit:uT P gf mk encs xs n₀ w0) (cC:Below n₀ w0 w) (mU:n₀<=w.heap.size) (fY:∀ x,(encs x).size=ps.size)
 (I:List α->(Nat->Prop)->World->Prop) (Ix:Code->List α->(Nat->Prop)->World->Prop)
 (hI:fq w.heap.size I) (iw:∀ c,fq w.heap.size (Ix c))
 (S0:Nat->Prop) (oU:∀ k,S0 k->n₀<=k) (jZ:∀ k,S0 k->k<w.heap.size) (h0:I [] S0 w)
 (B0:∀ (l0:Nat) (pre:List α) (x:α) (S:Nat->Prop) (W:World),pre ++ [x] <+: xs->I pre S W->(∀ k,S k->k<W.heap.size)->
   assign.wpIn (Fence.wide.inRound l0) 0 P (Exit.then (λa₁ W₁=>∃ S',RdStep S W W₁/\(∀ k,S' k->S k\/W.heap.size<=k)/\(∀ k,S' k->k<W₁.heap.size)/\
    ∀ l W₂,ItStep w.heap.size S' W₁ W₂->body.wpIn (Fence.wide.inRound l) 0 P (mF I Ix (pre ++ [x]) S' W₂) a₁ W₂) (λ_ _ _=>False))
    { tmps:=(ps.zip (encs x)).foldl (λt (p,v)=>t.setIfInBounds p v) a.tmps,defers:=[] } W)
 (lu:∀ (D:Nat) (S:Nat->Prop) (W:World),w.heap.size<=D->¬ S D->(∀ k,S k->S0 k\/w.heap.size<=k)->I xs S W->W.heap[D]?=some (.deferred (some []))->
   Q .normal { a with defers:={ target:=.collected D,args:=#[] } :: a.defers } W)
 (iV:∀ (D:Nat) (c:Code) (pre:List α) (S:Nat->Prop) (W:World),w.heap.size<=D->¬ S D->(∀ k,S k->S0 k\/w.heap.size<=k)->pre <+: xs->Ix c pre S W->W.heap[D]?=some (.deferred (some []))->
   c.wpIn Fence.wide 0 P Q { a with defers:={ target:=.collected D,args:=#[] } :: a.defers } W) :
 (Code.rangeFunc g ps assign body).wpIn Fence.wide 0 P Q a w:=
 Kl hg eg fX hit cC mU fY I Ix (λpre x S a₁ W=>∀ l W₂,ItStep w.heap.size S W W₂->body.wpIn (Fence.wide.inRound l) 0 P (mF I Ix (pre ++ [x]) S W₂) a₁ W₂)
  hI iw (λ_ _ _ _ _ _ h hs l W₂ h2=>h l W₂ (hs.trans h2)) S0 oU jZ h0 B0 (λl _ _ _ _ W _ h _=>h l W (ItStep.refl _ _ _)) lu iV
def bK(w:World):Type:={ x:World // Below w.heap.size w x }
def bK.w{w:World}(g:bK w):World:=g.1
theorem bK.below{w:World}(g:bK w):Below w.heap.size w g.w:=g.2
instance (w:World):Nonempty (bK w):=⟨⟨w,vQ _ _⟩⟩
theorem bK.cell{w:World}(g:bK w)(p:Addr)(h:p.block<w.heap.size):g.w.cell? p=w.cell? p:=g.2.cell h
theorem bK.frozen{w:World}(g:bK w)(p:Addr)(h:p.block<w.heap.size):g.w.frozen? p=w.frozen? p:=g.2.frozen h
theorem bK.size{w:World}(g:bK w):w.heap.size<=g.w.heap.size:=g.2.size
def zr(w:World)(w':World):Prop:=∃ g:bK w,w'=g.w
theorem zr.of{w w':World}(h:Below w.heap.size w w'):zr w w':=⟨⟨w',h⟩,rfl⟩
theorem Calls.grow_of{P:Program}{f:FuncId}{args:Array Value}{w:World}{g:bK w}{v:Value}
 (h:Calls P f args g.w λe w'=>e = .returned v/\Below g.w.heap.size g.w w'):Calls P f args g.w λe w''=>e = .returned v/\∃ g':bK w,w''=g'.w:=
 h.mono λ_ w' ⟨he,hm⟩=>⟨he,⟨w',g.2.trans (hm.mono g.2.size)⟩,rfl⟩
section
variable {P:Program}
theorem f9{id:Nat}{Q:Exit->Act->World->Prop}{a:Act}{w:World}{l:List Oper}(hm:P.follows .mixedOrders=true)(hB:Region.lexB .any l.toArray=true)
 (h:wpQuiet P l.toArray (λw'=>∃ g:bK w,w'=g.w) (λa'=>∀ w',(∃ g:bK w,w'=g.w)->Q .normal a' w') l a):(Code.region id l.toArray true).wp P Q a w:=
 wp_region_quiet (C:=λw'=>∃ g:bK w,w'=g.w) hm hB ⟨⟨_,(vQ w.heap.size w).drew⟩,rfl⟩ (by simpa using h)
end
theorem s5{W w1:World}(hb:Below W.heap.size W w1):(∀ b o,b<W.heap.size->w1.cell? ⟨b,o,none⟩=W.cell? ⟨b,o,none⟩)/\(∀ b o,b<W.heap.size->w1.frozen? ⟨b,o,none⟩=W.frozen? ⟨b,o,none⟩):=
 ⟨λb o h=>hb.cell (p:=⟨b,o,none⟩) h,λb o h=>hb.frozen (p:=⟨b,o,none⟩) h⟩
end D
namespace D
open Go.RowKit Go.Shelf
attribute [local go_sem] Oper.semAt_some
abbrev aD(l:List UInt8):Value:=.string ⟨l.toArray⟩
def J1:Value->Nat
 | .string s=>s.size
 | _=>0
def Ft(t:ByteArray)(J:List (List UInt8)->(Nat->Prop)->World->Prop)(S:Nat->Prop)(W:World)(v:Value)(wr:World):Prop:=
 ∃ (pre:List (List UInt8)) (r:ByteArray) (S1:Nat->Prop),v = .string r/\r.size<=140737488355328/\Np.back t.data.toList=pre++(Np.aW r.data.toList).reverse/\
   J pre S1 wr/\(∀ k,S1 k->k<wr.heap.size)/\W.heap.size<=wr.heap.size/\(∀ k,S1 k->S k\/W.heap.size<=k)
theorem Dz(t:ByteArray)(ht:t.size<=140737488355328)(n₀:Nat)(w:World) :
 uT prog 215 (λy=>#[.string t,y]) (λx:List UInt8=>#[aD x]) (Np.back t.data.toList) n₀ w:=by
 intro l J Jx S W hW hJ DV hY hS hS' h0;refine callsIn_of_wp func215 rfl trivial ?_ rfl;simp only[ntmps215,List.size_toArray,List.length_cons,List.length_nil,Nat.reduceAdd,Nat.reduceSub,Array.replicate_succ,Array.replicate_zero,List.push_toArray,List.append_toArray,List.nil_append,List.cons_append];gi_wp2_with fail
 ·have he:(t.toList == [46])=true:=by assumption
  have kG:t.data.toList = [46]:=by rw[<-dQ];simpa using he
  have hb:Np.back t.data.toList = []:=by simp[Np.back,kG]
  refine bodyPost_ret (results_none rfl _ _ _) rfl ?_;exact⟨⟨_,rfl⟩,.inl ⟨S,by rw[hb];exact h0,λk e=>.inl e⟩⟩
 ·have he:(t.toList == [46])=false:=by assumption
  have hne:¬ t.data.toList = [46]:=by rw[<-dQ];simpa using he
  have hb:Np.back t.data.toList=(Np.aW t.data.toList).reverse:=by simp[Np.back,hne]
  have HB:=jq hb;clear hb;gi_loopw [4] (λv wr=>Ft t J S W v wr) (λv _=>J1 v)
  case atStart=>exact⟨[],t,S,rfl,ht,by simpa using HB.out,h0,hS',bQ _,λ_ e=>.inl e⟩
  case round=>
   obtain⟨pre,r,S1,rfl,hr,fI,hj,aa,ap,bd⟩:=hrel;have HP:=jq fI;clear fI;gi_wp2_with fail;refine⟨trivial,rfl,?_⟩;refine (callsIn_wide.2 (JF _ hr _ (by decide) (by decide) _)).mono ?_;rintro e w' ⟨q,hq,rfl,rfl⟩;rcases hq with ⟨rfl,gl⟩ | ⟨a,b,gD,tG,rfl⟩
   ·have bl:Np.aW r.data.toList = [r.data.toList]:=Np.za gl;have hx:pre ++ [r.data.toList] <+: Np.back t.data.toList:=by rw[HP.out,bl];exact List.prefix_refl _
    obtain⟨fn,tmps,assign,body,hy,hR⟩:=hY pre r.data.toList S1 wr hx hj aa ap;have mg:Sem.run prog (Instr.yield l #[.string r]) wr = .ok (.round l fn tmps assign body) wr:=hy;clear hy;have HX:=jq hx;clear hx;have HS:=jq bl;clear bl gl;gi_wp2_with fail;refine⟨rfl,hR.mono ?_⟩;rintro e W3 ⟨S3,aJ,pj,pa,(⟨rfl,vn⟩ | ⟨rfl,vq⟩)⟩
    all_goals
     gi_wp2_with fail;refine bodyPost_ret (results_none rfl _ _ _) rfl ?_
    ·refine⟨⟨_,rfl⟩,.inl ⟨S3,?_,λk e=>?_⟩⟩
     ·rw[HP.out,HS.out];exact vn
     ·rcases pj k e with e | e
      ·exact bd k e
      ·right;omega
    ·refine⟨⟨_,rfl⟩,.inr ⟨_,S3,HX.out,vq,λk e=>?_⟩⟩;rcases pj k e with e | e
     ·exact bd k e
     ·right;omega
   ·have jA:a.length+1+b.length=r.size:=by rw[<-aZ,gD];simp;omega
    have bl:Np.aW r.data.toList=Np.aW a ++ [b]:=by rw[gD];exact (Np.CA a b).trans (by rw[Np.za tG])
    have hx:pre ++ [b] <+: Np.back t.data.toList:=by rw[HP.out,bl];simp
    have ng:(r.extract (a.length+1) r.size).data.toList=b:=by rw[DH,gD];simp
    have qi:(r.extract 0 a.length).data.toList=a:=by rw[DI,gD];simp
    have B3:(r.extract 0 a.length).size=a.length:=by rw[<-aZ,qi]
    obtain⟨fn,tmps,assign,body,hy,hR⟩:=hY pre b S1 wr hx hj aa ap;have mg:Sem.run prog (Instr.yield l #[.string (r.extract (a.length+1) r.size)]) wr = .ok (.round l fn tmps assign body) wr:=by
     have:aD b = .string (r.extract (a.length+1) r.size):=by show Value.string _=_;congr 1;exact lH (by rw[ng])
     simp only[this] at hy;exact hy
    clear hy;have HX:=jq hx;have HS:=jq bl;have HA:=jq qi;have uJ:=jq B3;clear hx bl ng qi B3 gD tG;have kD:a.length<=140737488355328:=by omega
    have NC:a.length+1<=r.size:=by omega
    have H2:=jq jA;clear jA;gi_wp2_with fail;refine⟨rfl,hR.mono ?_⟩;rintro e W3 ⟨S3,aJ,pj,pa,(⟨rfl,vn⟩ | ⟨rfl,vq⟩)⟩
    ·have YL:=aJ.size;gi_wp2_with fail;go_roundw
     case rel=>
      refine⟨pre ++ [b],r.extract 0 a.length,S3,rfl,by rw[uJ.out];exact kD,?_,vn,pa,by omega,λk e=>?_⟩
      ·rw[HP.out,HS.out,HA.out];simp
      ·rcases pj k e with e | e
       ·exact bd k e
       ·right;omega
     case measure=>show (r.extract 0 a.length).size<r.size;rw[uJ.out];omega
    ·gi_wp2_with fail;refine bodyPost_ret (results_none rfl _ _ _) rfl ?_;refine⟨⟨_,rfl⟩,.inr ⟨_,S3,HX.out,vq,λk e=>?_⟩⟩;rcases pj k e with e | e
     ·exact bd k e
     ·right;omega
end D
section
open Go.RowKit
structure ItStep(B:Nat)(S:Nat->Prop)(W W':World):Prop where
 os:W'.os=W.os
 tape:W'.tape=W.tape
 output:W'.output=W.output
 size:W.heap.size<=W'.heap.size
 keep:∀ k,k<W.heap.size->(k<B\/S k)->W'.heap[k]?=W.heap[k]?
structure RdStep(S:Nat->Prop)(W W':World):Prop where
 os:W'.os=W.os
 tape:W'.tape=W.tape
 output:W'.output=W.output
 size:W.heap.size<=W'.heap.size
 keep:∀ k,k<W.heap.size->¬ S k->W'.heap[k]?=W.heap[k]?
theorem ItStep.refl(B:Nat)(S:Nat->Prop)(W:World):ItStep B S W W:=⟨rfl,rfl,rfl,bQ _,λ_ _ _=>rfl⟩
theorem RdStep.refl(S:Nat->Prop)(W:World):RdStep S W W:=⟨rfl,rfl,rfl,bQ _,λ_ _ _=>rfl⟩
theorem ItStep.trans{B:Nat}{S:Nat->Prop}{A W C:World}(h:ItStep B S A W)(k:ItStep B S W C):ItStep B S A C:=
 ⟨k.os.trans h.os,k.tape.trans h.tape,k.output.trans h.output,yQ h.size k.size,λi hi hs=>(k.keep i (lQ hi h.size) hs).trans (h.keep i hi hs)⟩
theorem RdStep.trans{S S':Nat->Prop}{A W C:World}(h:RdStep S A W)(k:RdStep S' W C)(hS:∀ i,S' i->S i\/A.heap.size<=i):RdStep S A C:=
 ⟨k.os.trans h.os,k.tape.trans h.tape,k.output.trans h.output,yQ h.size k.size,λi hi hs=>
  (k.keep i (lQ hi h.size) (λe=>by rcases hS i e with e | e;exact hs e;omega)).trans (h.keep i hi hs)⟩
theorem RdStep.mono{S S':Nat->Prop}{A W:World}(h:RdStep S A W)(hS:∀ i,S i->S' i):RdStep S' A W:=
 ⟨h.os,h.tape,h.output,h.size,λi hi hs=>h.keep i hi (λe=>hs (hS i e))⟩
theorem ItStep.of_below{B:Nat}{S:Nat->Prop}{A W:World}(h:Below A.heap.size A W):ItStep B S A W:=
 ⟨h.os,h.tape,h.output,h.size,λk hk _=>h.block k hk⟩
theorem RdStep.of_below{S:Nat->Prop}{A W:World}(h:Below A.heap.size A W):RdStep S A W:=
 ⟨h.os,h.tape,h.output,h.size,λk hk _=>h.block k hk⟩
theorem RdStep.below{S:Nat->Prop}{A W:World}{n:Nat}(h:RdStep S A W)(hn:n<=A.heap.size)(hS:∀ k,S k->n<=k):Below n A W:=
 ⟨h.os,h.tape,h.output,h.size,λk hk=>h.keep k (by omega) (λe=>by have:=hS k e;omega)⟩
theorem RdStep.setCell{S:Nat->Prop}{A W:World}(h:RdStep S A W){p:Addr}(hp:S p.block\/A.heap.size<=p.block)(u:Value):RdStep S A (W.setCell p u):=
 ⟨h.os,h.tape,h.output,by simpa [World.setCell] using h.size,λk hk hs=>(wQ _ _ _ _ (by rintro rfl;rcases hp with hp | hp;exact hs hp;omega)).trans (h.keep k hk hs)⟩
theorem RdStep.alloc{S:Nat->Prop}{A W:World}(h:RdStep S A W)(o:Obj):RdStep S A (W.alloc o):=
 ⟨h.os,h.tape,h.output,yQ h.size (by simp),λk hk hs=>(Below.heap_alloc _ _ _ (lQ hk h.size)).trans (h.keep k hk hs)⟩
theorem RdStep.drew{S:Nat->Prop}{A W:World}(h:RdStep S A W):RdStep S A W.drew:=⟨h.os,h.tape,h.output,h.size,h.keep⟩
theorem RdStep.grown{S:Nat->Prop}{A W C:World}{row:Option Nat}(h:RdStep S A W)(hg:W.grownBy C row)(hr:∀ k,row=some k->S k\/A.heap.size<=k):RdStep S A C:=
 ⟨hg.os.trans h.os,hg.tape.trans h.tape,hg.output.trans h.output,yQ h.size hg.size,λk hk hs=>
  (hg.block k (lQ hk h.size) (λe=>by rcases hr k e.symm with e' | e';exact hs e';omega)).trans (h.keep k hk hs)⟩
theorem RdStep.then_below{S:Nat->Prop}{A W C:World}(h:RdStep S A W)(k:Below W.heap.size W C):RdStep S A C:=
 ⟨k.os.trans h.os,k.tape.trans h.tape,k.output.trans h.output,yQ h.size k.size,λi hi hs=>(k.block i (lQ hi h.size)).trans (h.keep i hi hs)⟩
def fq{β:Type}(B:Nat)(J:β->(Nat->Prop)->World->Prop):Prop:=∀ s S W W',J s S W->ItStep B S W W'->J s S W'
def Ds{α:Type}(J Jx:List α->(Nat->Prop)->World->Prop)(pre:List α)(x:α)(S:Nat->Prop)(W:World)(e:Ending)(W':World):Prop:=
 ∃ S':Nat->Prop,RdStep S W W'/\(∀ k,S' k->S k\/W.heap.size<=k)/\(∀ k,S' k->k<W'.heap.size)/\
   ((e = .returned (.bool true)/\J (pre ++ [x]) S' W')\/(e = .returned (.bool false)/\Jx (pre ++ [x]) S' W'))
def uT{α:Type}(P:Program)(gf:FuncId)(mk:Value->Array Value)(encs:α->Array Value)(xs:List α)(n₀:Nat)(w:World):Prop:=
 ∀ (l:Nat) (J Jx:List α->(Nat->Prop)->World->Prop) (S:Nat->Prop) (W:World),Below n₀ w W->
   fq W.heap.size J->fq W.heap.size Jx->
   (∀ pre x S1 W1,pre ++ [x] <+: xs->J pre S1 W1->(∀ k,S1 k->k<W1.heap.size)->W.heap.size<=W1.heap.size->
     YieldAt Fence.wide 0 P l (encs x) W1 (Ds J Jx pre x S1 W1))->
   (∀ k,S k->n₀<=k)->(∀ k,S k->k<W.heap.size)->J [] S W->
   CallsIn Fence.wide 0 P gf (mk (.func (.yield l) #[] #[])) W λe W'=>(∃ v,e = .returned v)/\
    ((∃ S',J xs S' W'/\(∀ k,S' k->S k\/W.heap.size<=k))\/(∃ pre S',pre <+: xs/\Jx pre S' W'/\(∀ k,S' k->S k\/W.heap.size<=k)))
def mF{α:Type}(I:List α->(Nat->Prop)->World->Prop)(Ix:Code->List α->(Nat->Prop)->World->Prop)(xs:List α)(S:Nat->Prop)(W:World):Exit->Act->World->Prop
 | .normal,_,W'=>∃ S',RdStep S W W'/\(∀ k,S' k->S k\/W.heap.size<=k)/\(∀ k,S' k->k<W'.heap.size)/\I xs S' W'
 | .ret,_,W'=>∃ S',RdStep S W W'/\(∀ k,S' k->S k\/W.heap.size<=k)/\(∀ k,S' k->k<W'.heap.size)/\Ix .ret xs S' W'
 | .exit id,_,W'=>∃ S',RdStep S W W'/\(∀ k,S' k->S k\/W.heap.size<=k)/\(∀ k,S' k->k<W'.heap.size)/\Ix (.exit id) xs S' W'
 | _,_,_=>False
theorem iX{B:Nat}{S:Nat->Prop}{W:World}{l:Nat}(o:Obj)(hl:B<=l)(hS:¬ S l):ItStep B S W (W.putObj l o):=
 ⟨rfl,rfl,rfl,by simp,λk _ hk=>zQ (by rintro rfl;rcases hk with hk | hk;omega;exact hS hk)⟩
theorem tW{B:Nat}{S:Nat->Prop}{W:World}(o:Obj):ItStep B S W (W.alloc o):=
 ⟨rfl,rfl,rfl,by simp,λk hk _=>Below.heap_alloc _ _ _ hk⟩
theorem ItStep.weaken{B B':Nat}{S S':Nat->Prop}{W W':World}(h:ItStep B S W W')(hB:B'<=B)(hS:∀ k,S' k->S k):ItStep B' S' W W':=
 ⟨h.os,h.tape,h.output,h.size,λk hk hs=>h.keep k hk (hs.imp (λe=>by omega) (hS k))⟩
theorem Kl{α:Type}{P:Program}{g:Operand}{ps:Array Tmp}{assign body:Code}{Q:Exit->Act->World->Prop}{a:Act}{w:World}
 {gf:FuncId} {first captured:Array Value} (hg:a.eval g = .func (.func gf) first captured) (eg:∀ args w,(callFunc gf args).run P w = .ok (.enter gf args) w)
 {mk:Value->Array Value} {encs:α->Array Value} {xs:List α} {n₀:Nat} {w0:World} (fX:∀ y,mk y=first ++ #[y]++captured)
 (hit:uT P gf mk encs xs n₀ w0) (cC:Below n₀ w0 w) (mU:n₀<=w.heap.size) (fY:∀ x,(encs x).size=ps.size)
 (I:List α->(Nat->Prop)->World->Prop) (Ix:Code->List α->(Nat->Prop)->World->Prop) (A:List α->α->(Nat->Prop)->Act->World->Prop)
 (hI:fq w.heap.size I) (iw:∀ c,fq w.heap.size (Ix c)) (hA:∀ pre x S a' W W',A pre x S a' W->ItStep w.heap.size S W W'->A pre x S a' W')
 (S0:Nat->Prop) (oU:∀ k,S0 k->n₀<=k) (jZ:∀ k,S0 k->k<w.heap.size) (h0:I [] S0 w)
 (Bd:∀ (l:Nat) (pre:List α) (x:α) (S:Nat->Prop) (W:World),pre ++ [x] <+: xs->I pre S W->(∀ k,S k->k<W.heap.size)->
   assign.wpIn (Fence.wide.inRound l) 0 P (Exit.then (λa₁ W₁=>∃ S',RdStep S W W₁/\(∀ k,S' k->S k\/W.heap.size<=k)/\(∀ k,S' k->k<W₁.heap.size)/\A pre x S' a₁ W₁) (λ_ _ _=>False))
    { tmps:=(ps.zip (encs x)).foldl (λt (p,v)=>t.setIfInBounds p v) a.tmps,defers:=[] } W)
 (Bj:∀ (l:Nat) (pre:List α) (x:α) (S:Nat->Prop) (a₁:Act) (W:World),pre ++ [x] <+: xs->A pre x S a₁ W->(∀ k,S k->k<W.heap.size)->
   body.wpIn (Fence.wide.inRound l) 0 P (mF I Ix (pre ++ [x]) S W) a₁ W)
 (lu:∀ (D:Nat) (S:Nat->Prop) (W:World),w.heap.size<=D->¬ S D->(∀ k,S k->S0 k\/w.heap.size<=k)->I xs S W->W.heap[D]?=some (.deferred (some []))->
   Q .normal { a with defers:={ target:=.collected D,args:=#[] } :: a.defers } W)
 (iV:∀ (D:Nat) (c:Code) (pre:List α) (S:Nat->Prop) (W:World),w.heap.size<=D->¬ S D->(∀ k,S k->S0 k\/w.heap.size<=k)->pre <+: xs->Ix c pre S W->W.heap[D]?=some (.deferred (some []))->
   c.wpIn Fence.wide 0 P Q { a with defers:={ target:=.collected D,args:=#[] } :: a.defers } W) :
 (Code.rangeFunc g ps assign body).wpIn Fence.wide 0 P Q a w:=by
 refine wpIn_rangeFunc ?_;intro fn iT;show ∃ (l:Nat) (mark:List Deferred) (w₁:World) (d:Deferred) (w₁':World) (f:FuncId) (args:Array Value) (w₂:World),(Instr.enterLoop fn a.tmps ps assign body none).run P w = .ok (l,mark) w₁/\_;obtain⟨rec,eS⟩:∃ rec:LoopState->Option Code->Loop,rec=λst pe=>{ state:=st,pending:=pe,fn,tmps:=a.tmps,params:=ps,assign,body,defers:=w.heap.size }:=⟨_,rfl⟩;obtain⟨W1,an⟩:∃ W1,(w.alloc (.deferred (some []))).alloc (.loop (rec .ready none))=W1:=⟨_,rfl⟩;have ap:W1.heap.size=w.heap.size+2:=by rw[<-an];simp
 have g9:W1.heap[w.heap.size+1]?=some (.loop (rec .ready none)):=by
  rw[<-an];have:=World.alloc_heap_new (w.alloc (.deferred (some []))) (.loop (rec .ready none));rwa [World.size_alloc] at this
 have AQ:W1.heap[w.heap.size]?=some (.deferred (some [])):=by
  rw[<-an];exact (Below.heap_alloc _ _ _ (by simp)).trans (World.alloc_heap_new w _)
 have lW:I [] S0 W1:=by rw[<-an];exact hI _ _ _ _ (hI _ _ _ _ h0 (tW _)) (tW _)
 have aw:Below n₀ w0 W1:=by
  rw[<-an];exact cC.trans ((((vQ _ w).alloc (bQ _) _).alloc (by simp) _).mono mU)
 refine⟨w.heap.size+1,[{ target:=.collected w.heap.size,args:=#[] }],W1,{ target:=.fn (.func gf) captured,args:=first ++ #[.func (.yield (w.heap.size+1)) #[] #[]] },W1,gf,
  first ++ #[.func (.yield (w.heap.size+1)) #[] #[]]++captured,W1,?_,?_,?_,?_,λh=>by simp[Fence.wide] at h,?_⟩
 ·rw[<-an,eS];exact run_enterLoop_outer _ _ _ _ _
 ·simp only[resolve,hg];simp[go_sem]
 ·intro f' _;trivial
 ·simp[invoke,go_sem,eg]
 ·rw[<-fX];have key:=hit (w.heap.size+1)
   (λpre Si W=>∃ S:Nat->Prop,(∀ k,Si k↔S k\/k=w.heap.size+1)/\(¬ S w.heap.size)/\(¬ S (w.heap.size+1))/\(∀ k,S k->S0 k\/w.heap.size<=k)/\I pre S W/\W.heap[w.heap.size+1]?=some (.loop (rec .ready none))/\W.heap[w.heap.size]?=some (.deferred (some [])))
   (λpre Si W=>∃ (S:Nat->Prop) (c:Code),(∀ k,Si k↔S k\/k=w.heap.size+1)/\(¬ S w.heap.size)/\(¬ S (w.heap.size+1))/\(∀ k,S k->S0 k\/w.heap.size<=k)/\Ix c pre S W/\W.heap[w.heap.size+1]?=some (.loop (rec .done (some c)))/\W.heap[w.heap.size]?=some (.deferred (some [])))
   (λk=>S0 k\/k=w.heap.size+1) W1 aw ?_ ?_ ?_ ?_ ?_ ?_
  ·refine key.mono ?_;rintro e W2 ⟨⟨v,rfl⟩,(⟨S',⟨S,cJ,hD,hL,bd,hi,hl,hk⟩,_⟩ | ⟨pre,S',fI,⟨S,c,cJ,hD,hL,bd,hi,hl,hk⟩,_⟩)⟩
   ·refine⟨none,_,by have:=run_endLoop (P:=P) hl (by rw[eS];simp);rw[eS] at this;exact this,?_⟩;exact lu _ S _ (bQ _) hD bd (hI _ _ _ _ hi (iX _ (by omega) hL)) ((zQ (by omega)).trans hk)
   ·refine⟨some c,_,by have:=run_endLoop (P:=P) hl (by rw[eS];simp);rw[eS] at this;exact this,?_⟩;exact iV _ c pre S _ (bQ _) hD bd fI ((iw c) _ _ _ _ hi (iX _ (by omega) hL)) ((zQ (by omega)).trans hk)
  ·rintro pre Si A1 B1 ⟨S,cJ,hD,hL,bd,hi,hl,hk⟩ av;have aa:w.heap.size+1<A1.heap.size:=(eQ.1 hl).1;exact⟨S,cJ,hD,hL,bd,hI _ _ _ _ hi (av.weaken (by omega) (λk e=>(cJ k).2 (.inl e))),(av.keep _ aa (.inl (by omega))).trans hl,(av.keep _ (by omega) (.inl (by omega))).trans hk⟩
  ·rintro pre Si A1 B1 ⟨S,c,cJ,hD,hL,bd,hi,hl,hk⟩ av;have aa:w.heap.size+1<A1.heap.size:=(eQ.1 hl).1;exact⟨S,c,cJ,hD,hL,bd,iw c _ _ _ _ hi (av.weaken (by omega) (λk e=>(cJ k).2 (.inl e))),(av.keep _ aa (.inl (by omega))).trans hl,(av.keep _ (by omega) (.inl (by omega))).trans hk⟩
  ·
   rintro pre x Si W bw ⟨S,cJ,hD,hL,bd,hi,hl,hk⟩ eu In;have aa:w.heap.size+1<W.heap.size:=(eQ.1 hl).1;have AY:∀ k,S k->k<W.heap.size:=λk e=>eu k ((cJ k).2 (.inl e));have hy:=run_yield (P:=P) (args:=encs x) hl (by rw[eS];exact fY x);rw[eS] at hy;refine⟨fn,_,assign,body,hy,roundIn_of_wpIn iT (wpIn_mono (Bd _ pre x S W bw hi AY) ?_)⟩;intro e a1 Wa hq
   cases e with
   | normal=>
    obtain⟨S1,fJ,bl,B2,AK⟩:=hq;have tD:¬ S1 w.heap.size:=λe=>by rcases bl _ e with e | e;exact hD e;omega
    have pd:¬ S1 (w.heap.size+1):=λe=>by rcases bl _ e with e | e;exact hL e;omega
    have mS:Wa.heap[w.heap.size+1]?=some (.loop (rec .ready none)):=(fJ.keep _ aa hL).trans hl;have BF:Wa.heap[w.heap.size]?=some (.deferred (some [])):=(fJ.keep _ (by omega) hD).trans hk;have tC:w.heap.size+1<Wa.heap.size:=(eQ.1 mS).1;refine⟨_,run_beginRound mS (by rw[eS]),?_⟩;have hb:=Bj (w.heap.size+1) pre x S1 a1 (Wa.putObj (w.heap.size+1) (.loop { rec .ready none with state:=.busy })) bw (hA _ _ _ _ _ _ AK (iX _ (by omega) pd)) (λk e=>by simpa using B2 k e);refine wpIn_mono hb ?_;have fin:∀ (jump:Option Code) (W3:World) (S3:Nat->Prop),RdStep S1 (Wa.putObj (w.heap.size+1) (.loop { rec .ready none with state:=.busy })) W3->(∀ k,S3 k->S1 k\/(Wa.putObj (w.heap.size+1) (.loop { rec .ready none with state:=.busy })).heap.size<=k)->(∀ k,S3 k->k<W3.heap.size)->
     (Instr.endRound (w.heap.size+1) jump).run P W3 = .ok (.bool jump.isNone) (W3.putObj (w.heap.size+1) (.loop (rec (if jump.isNone then .ready else .done) jump)))/\
     (W3.putObj (w.heap.size+1) (.loop (rec (if jump.isNone then .ready else .done) jump))).heap[w.heap.size+1]?=some (.loop (rec (if jump.isNone then .ready else .done) jump))/\
     (W3.putObj (w.heap.size+1) (.loop (rec (if jump.isNone then .ready else .done) jump))).heap[w.heap.size]?=some (.deferred (some []))/\
     ¬ S3 w.heap.size/\¬ S3 (w.heap.size+1)/\(∀ k,S3 k->S k\/W.heap.size<=k)/\
     RdStep Si W (W3.putObj (w.heap.size+1) (.loop (rec (if jump.isNone then .ready else .done) jump))):=λjump W3 S3 cF cY cG=>by
     have dF:(Wa.putObj (w.heap.size+1) (.loop { rec .ready none with state:=.busy })).heap[w.heap.size+1]?=some (.loop { rec .ready none with state:=.busy }):=World.putObj_heap_same tC;have jw:(Wa.putObj (w.heap.size+1) (.loop { rec .ready none with state:=.busy })).heap[w.heap.size]?=some (.deferred (some [])):=(zQ (by omega)).trans BF;have mR:=(cF.keep _ (by simpa using tC) pd).trans dF;have l6:=(cF.keep _ (by simp;omega) tD).trans jw;have pa:=(eQ.1 mR).1
     have:=run_endRound (P:=P) jump mR
     rw[eS] at this |-;have kJ:=cF.size;have qf:=fJ.size;simp only[World.putObj_size] at kJ cY;refine⟨this,World.putObj_heap_same pa,(zQ (by omega)).trans l6,λe=>?_,λe=>?_,λk e=>?_,?_⟩
     ·rcases cY _ e with e | e;exact tD e;omega
     ·rcases cY _ e with e | e;exact pd e;omega
     ·rcases cY _ e with e | e
      ·exact bl _ e
      ·right;omega
     ·refine⟨cF.os.trans fJ.os,cF.tape.trans fJ.tape,cF.output.trans fJ.output,by simp;omega,λk hk' tE=>?_⟩;have l7:k≠w.heap.size+1:=λe=>tE ((cJ k).2 (.inr e));have tF:¬ S k:=λe=>tE ((cJ k).2 (.inl e));have BN:¬ S1 k:=λe=>by rcases bl _ e with e | e;exact tF e;omega
      exact (zQ l7).trans ((cF.keep k (by simp;omega) BN).trans ((zQ l7).trans (fJ.keep k hk' tF)))
    have fin2:∀ (S3:Nat->Prop) (W3:World) (o:Obj),(∀ k,S3 k->k<W3.heap.size)->W.heap.size<=W3.heap.size->(∀ k,S3 k->S k\/W.heap.size<=k)->
     (∀ k,(S3 k\/k=w.heap.size+1)->Si k\/W.heap.size<=k)/\(∀ k,(S3 k\/k=w.heap.size+1)->k<(W3.putObj (w.heap.size+1) o).heap.size):=λS3 W3 o h1 h2 h3=>
     ⟨λk e=>by rcases e with e | e;exact (h3 k e).imp (λe'=>(cJ k).2 (.inl e')) id;exact .inl ((cJ k).2 (.inr e)),λk e=>by
      simp only[World.putObj_size];rcases e with e | e
      ·exact h1 k e
      ·omega⟩
    have sub3:∀ (S3:Nat->Prop),(∀ k,S3 k->S k\/W.heap.size<=k)->∀ k,S3 k->S0 k\/w.heap.size<=k:=λS3 h k e=>by
     rcases h k e with e | e
     ·exact bd k e
     ·right;omega
    rintro e a3 W3 hp
    cases e with
    | normal=>
     obtain⟨S3,cF,cY,cG,kb⟩:=hp;obtain⟨hr,kc,jx,gF,fG,dt,aJ⟩:=fin none W3 S3 cF cY cG;have ap:W.heap.size<=W3.heap.size:=by simpa using aJ.size
     refine⟨_,_,hr,λk=>S3 k\/k=w.heap.size+1,aJ,(fin2 S3 W3 (.deferred none) cG ap dt).1,(fin2 S3 W3 _ cG ap dt).2,.inl ⟨rfl,S3,λ_=>Iff.rfl,gF,fG,sub3 S3 dt,hI _ _ _ _ kb (iX _ (by omega) fG),kc,jx⟩⟩
    | ret=>
     obtain⟨S3,cF,cY,cG,kb⟩:=hp;obtain⟨hr,kc,jx,gF,fG,dt,aJ⟩:=fin (some .ret) W3 S3 cF cY cG;have ap:W.heap.size<=W3.heap.size:=by simpa using aJ.size
     refine⟨_,_,hr,λk=>S3 k\/k=w.heap.size+1,aJ,(fin2 S3 W3 (.deferred none) cG ap dt).1,(fin2 S3 W3 _ cG ap dt).2,.inr ⟨rfl,S3,.ret,λ_=>Iff.rfl,gF,fG,sub3 S3 dt,iw _ _ _ _ _ kb (iX _ (by omega) fG),kc,jx⟩⟩
    | exit id=>
     obtain⟨S3,cF,cY,cG,kb⟩:=hp;obtain⟨hr,kc,jx,gF,fG,dt,aJ⟩:=fin (some (.exit id)) W3 S3 cF cY cG;have ap:W.heap.size<=W3.heap.size:=by simpa using aJ.size
     refine⟨_,_,hr,λk=>S3 k\/k=w.heap.size+1,aJ,(fin2 S3 W3 (.deferred none) cG ap dt).1,(fin2 S3 W3 _ cG ap dt).2,.inr ⟨rfl,S3,.exit id,λ_=>Iff.rfl,gF,fG,sub3 S3 dt,iw _ _ _ _ _ kb (iX _ (by omega) fG),kc,jx⟩⟩
    | goto t=>exact hp.elim
    | panic ch=>exact hp.elim
    | outgrown=>exact hp.elim
   | ret=>exact hq.elim
   | exit id=>exact hq.elim
   | goto t=>exact hq.elim
   | panic ch=>exact hq.elim
   | outgrown=>exact hq.elim
  ·rintro k (e | rfl)
   ·exact oU k e
   ·omega
  ·rintro k (e | rfl)
   ·have:=jZ k e;omega
   ·omega
  ·exact⟨S0,λ_=>Iff.rfl,λe=>by have:=jZ _ e;omega,λe=>by have:=jZ _ e;omega,λ_ e=>.inl e,lW,g9,AQ⟩
theorem jU{B:Nat}{S:Nat->Prop}{W W':World}{b:Nat}{t:TypeId}{v:Value}(h:Boxed W b t v)(hs:ItStep B S W W')(hb:S b):Boxed W' b t v:=(hs.keep b h.lt (.inr hb)).trans h
theorem uY{n B:Nat}{S:Nat->Prop}{w W W':World}(h:Below n w W)(hs:ItStep B S W W')(hB:n<=B)(hn:n<=w.heap.size):Below n w W':=
 ⟨hs.os.trans h.os,hs.tape.trans h.tape,hs.output.trans h.output,yQ h.size hs.size,λk hk=>(hs.keep k (by have:=h.size;omega) (.inl (by omega))).trans (h.block k hk)⟩
theorem Mw{S:Nat->Prop}{W W':World}{b:Nat}{t:TypeId}{v:Value}(h:Boxed W b t v)(hs:RdStep S W W')(hb:¬ S b):Boxed W' b t v:=(hs.keep b h.lt hb).trans h
theorem cR{n:Nat}{W W':World}{b:Nat}{t:TypeId}{v:Value}(h:Boxed W b t v)(hs:Below n W W')(hb:b<n):Boxed W' b t v:=(hs.block b hb).trans h
theorem eM{W:World}{b:Nat}{t:TypeId}{v:Value}(h:Boxed W b t v){p:Addr}(hp:b≠p.block)(u:Value):Boxed (W.setCell p u) b t v:=(wQ W p u b hp).trans h
theorem ll{P:Program}{fn:Func}{R:Ending->World->Prop}{tmps:Array Value}{w:World}{v:Value}(rM:(results fn tmps).run P w = .ok v w)(hR:R (.returned v) w) :
 bodyPostM Fence.wide 0 P fn R .ret { tmps:=tmps,defers:=[] } w:=⟨_,rM,hR⟩
theorem nN{P:Program}{fn:Func}{R:Ending->World->Prop}{tmps:Array Value}{W:World}{D:Nat}{v:Value}(hK:W.heap[D]?=some (.deferred (some [])))
 (rM:(results fn tmps).run P (W.putObj D (.deferred none)) = .ok v (W.putObj D (.deferred none))) (hR:R (.returned v) (W.putObj D (.deferred none))) :
 bodyPostM Fence.wide 0 P fn R .ret { tmps:=tmps,defers:=[{ target:=.collected D,args:=#[] }] } W:=
 ⟨by simp,.inl ⟨_,_,rfl,run_takeDeferred hK,_,rM,hR⟩⟩
theorem nL{n D:Nat}{w W:World}(h:Below n w W)(hD:n<=D)(o:Obj):Below n w (W.putObj D o):=
 ⟨h.os,h.tape,h.output,by simpa using h.size,λk hk=>(zQ (by omega)).trans (h.block k hk)⟩
theorem uZ{W:World}{b D:Nat}{t:TypeId}{v:Value}(h:Boxed W b t v)(hD:b≠D)(o:Obj):Boxed (W.putObj D o) b t v:=(zQ hD).trans h
theorem Fo{α:Type}{P:Program}{g:Operand}{ps:Array Tmp}{assign body:Code}{Q:Exit->Act->World->Prop}{a:Act}{w:World}
 {gf:FuncId} {first captured:Array Value} (hg:a.eval g = .func (.func gf) first captured) (eg:∀ args w,(callFunc gf args).run P w = .ok (.enter gf args) w)
 {mk:Value->Array Value} {encs:α->Array Value} {xs:List α} {n₀:Nat} {w0:World} (fX:∀ y,mk y=first ++ #[y]++captured)
 (hit:uT P gf mk encs xs n₀ w0) (cC:Below n₀ w0 w) (mU:n₀<=w.heap.size) (fY:∀ x,(encs x).size=ps.size)
 (I:List α->(Nat->Prop)->World->Prop) (Ix:Code->List α->(Nat->Prop)->World->Prop)
 (hI:fq w.heap.size I) (iw:∀ c,fq w.heap.size (Ix c))
 (S0:Nat->Prop) (oU:∀ k,S0 k->n₀<=k) (jZ:∀ k,S0 k->k<w.heap.size) (h0:I [] S0 w)
 (B0:∀ (l0:Nat) (pre:List α) (x:α) (S:Nat->Prop) (W:World),pre ++ [x] <+: xs->I pre S W->(∀ k,S k->k<W.heap.size)->
   assign.wpIn (Fence.wide.inRound l0) 0 P (Exit.then (λa₁ W₁=>∃ S',RdStep S W W₁/\(∀ k,S' k->S k\/W.heap.size<=k)/\(∀ k,S' k->k<W₁.heap.size)/\
    ∀ l W₂,ItStep w.heap.size S' W₁ W₂->body.wpIn (Fence.wide.inRound l) 0 P (mF I Ix (pre ++ [x]) S' W₂) a₁ W₂) (λ_ _ _=>False))
    { tmps:=(ps.zip (encs x)).foldl (λt (p,v)=>t.setIfInBounds p v) a.tmps,defers:=[] } W)
 (lu:∀ (D:Nat) (S:Nat->Prop) (W:World),w.heap.size<=D->¬ S D->(∀ k,S k->S0 k\/w.heap.size<=k)->I xs S W->W.heap[D]?=some (.deferred (some []))->
   Q .normal { a with defers:={ target:=.collected D,args:=#[] } :: a.defers } W)
 (iV:∀ (D:Nat) (c:Code) (pre:List α) (S:Nat->Prop) (W:World),w.heap.size<=D->¬ S D->(∀ k,S k->S0 k\/w.heap.size<=k)->pre <+: xs->Ix c pre S W->W.heap[D]?=some (.deferred (some []))->
   c.wpIn Fence.wide 0 P Q { a with defers:={ target:=.collected D,args:=#[] } :: a.defers } W) :
 (Code.rangeFunc g ps assign body).wpIn Fence.wide 0 P Q a w:=
 Kl hg eg fX hit cC mU fY I Ix (λpre x S a₁ W=>∀ l W₂,ItStep w.heap.size S W W₂->body.wpIn (Fence.wide.inRound l) 0 P (mF I Ix (pre ++ [x]) S W₂) a₁ W₂)
  hI iw (λ_ _ _ _ _ _ h hs l W₂ h2=>h l W₂ (hs.trans h2)) S0 oU jZ h0 B0 (λl _ _ _ _ W _ h _=>h l W (ItStep.refl _ _ _)) lu iV
end
section
open Go.RowKit Go.Shelf
attribute [local go_sem] Oper.semAt_some
abbrev aD(l:List UInt8):Value:=.string ⟨l.toArray⟩
def J1:Value->Nat
 | .string s=>s.size
 | _=>0
def Ft(t:ByteArray)(J:List (List UInt8)->(Nat->Prop)->World->Prop)(S:Nat->Prop)(W:World)(v:Value)(wr:World):Prop:=
 ∃ (pre:List (List UInt8)) (r:ByteArray) (S1:Nat->Prop),v = .string r/\r.size<=140737488355328/\Np.back t.data.toList=pre++(Np.aW r.data.toList).reverse/\
   J pre S1 wr/\(∀ k,S1 k->k<wr.heap.size)/\W.heap.size<=wr.heap.size/\(∀ k,S1 k->S k\/W.heap.size<=k)
theorem Dz(t:ByteArray)(ht:t.size<=140737488355328)(n₀:Nat)(w:World) :
 uT prog 215 (λy=>#[.string t,y]) (λx:List UInt8=>#[aD x]) (Np.back t.data.toList) n₀ w:=by
 intro l J Jx S W hW hJ DV hY hS hS' h0;refine callsIn_of_wp func215 rfl trivial ?_ rfl;simp only[ntmps215,List.size_toArray,List.length_cons,List.length_nil,Nat.reduceAdd,Nat.reduceSub,Array.replicate_succ,Array.replicate_zero,List.push_toArray,List.append_toArray,List.nil_append,List.cons_append];gi_wp2_with fail
 ·have he:(t.toList == [46])=true:=by assumption
  have kG:t.data.toList = [46]:=by rw[<-dQ];simpa using he
  have hb:Np.back t.data.toList = []:=by simp[Np.back,kG]
  refine bodyPost_ret (results_none rfl _ _ _) rfl ?_;exact⟨⟨_,rfl⟩,.inl ⟨S,by rw[hb];exact h0,λk e=>.inl e⟩⟩
 ·have he:(t.toList == [46])=false:=by assumption
  have hne:¬ t.data.toList = [46]:=by rw[<-dQ];simpa using he
  have hb:Np.back t.data.toList=(Np.aW t.data.toList).reverse:=by simp[Np.back,hne]
  have HB:=jq hb;clear hb;gi_loopw [4] (λv wr=>Ft t J S W v wr) (λv _=>J1 v)
  case atStart=>exact⟨[],t,S,rfl,ht,by simpa using HB.out,h0,hS',bQ _,λ_ e=>.inl e⟩
  case round=>
   obtain⟨pre,r,S1,rfl,hr,fI,hj,aa,ap,bd⟩:=hrel;have HP:=jq fI;clear fI;gi_wp2_with fail;refine⟨trivial,rfl,?_⟩;refine (callsIn_wide.2 (JF _ hr _ (by decide) (by decide) _)).mono ?_;rintro e w' ⟨q,hq,rfl,rfl⟩;rcases hq with ⟨rfl,gl⟩ | ⟨a,b,gD,tG,rfl⟩
   ·have bl:Np.aW r.data.toList = [r.data.toList]:=Np.za gl;have hx:pre ++ [r.data.toList] <+: Np.back t.data.toList:=by rw[HP.out,bl];exact List.prefix_refl _
    obtain⟨fn,tmps,assign,body,hy,hR⟩:=hY pre r.data.toList S1 wr hx hj aa ap;have mg:Sem.run prog (Instr.yield l #[.string r]) wr = .ok (.round l fn tmps assign body) wr:=hy;clear hy;have HX:=jq hx;clear hx;have HS:=jq bl;clear bl gl;gi_wp2_with fail;refine⟨rfl,hR.mono ?_⟩;rintro e W3 ⟨S3,aJ,pj,pa,(⟨rfl,vn⟩ | ⟨rfl,vq⟩)⟩
    all_goals
     gi_wp2_with fail;refine bodyPost_ret (results_none rfl _ _ _) rfl ?_
    ·refine⟨⟨_,rfl⟩,.inl ⟨S3,?_,λk e=>?_⟩⟩
     ·rw[HP.out,HS.out];exact vn
     ·rcases pj k e with e | e
      ·exact bd k e
      ·right;omega
    ·refine⟨⟨_,rfl⟩,.inr ⟨_,S3,HX.out,vq,λk e=>?_⟩⟩;rcases pj k e with e | e
     ·exact bd k e
     ·right;omega
   ·have jA:a.length+1+b.length=r.size:=by rw[<-aZ,gD];simp;omega
    have bl:Np.aW r.data.toList=Np.aW a ++ [b]:=by rw[gD];exact (Np.CA a b).trans (by rw[Np.za tG])
    have hx:pre ++ [b] <+: Np.back t.data.toList:=by rw[HP.out,bl];simp
    have ng:(r.extract (a.length+1) r.size).data.toList=b:=by rw[DH,gD];simp
    have qi:(r.extract 0 a.length).data.toList=a:=by rw[DI,gD];simp
    have B3:(r.extract 0 a.length).size=a.length:=by rw[<-aZ,qi]
    obtain⟨fn,tmps,assign,body,hy,hR⟩:=hY pre b S1 wr hx hj aa ap;have mg:Sem.run prog (Instr.yield l #[.string (r.extract (a.length+1) r.size)]) wr = .ok (.round l fn tmps assign body) wr:=by
     have:aD b = .string (r.extract (a.length+1) r.size):=by show Value.string _=_;congr 1;exact lH (by rw[ng])
     simp only[this] at hy;exact hy
    clear hy;have HX:=jq hx;have HS:=jq bl;have HA:=jq qi;have uJ:=jq B3;clear hx bl ng qi B3 gD tG;have kD:a.length<=140737488355328:=by omega
    have NC:a.length+1<=r.size:=by omega
    have H2:=jq jA;clear jA;gi_wp2_with fail;refine⟨rfl,hR.mono ?_⟩;rintro e W3 ⟨S3,aJ,pj,pa,(⟨rfl,vn⟩ | ⟨rfl,vq⟩)⟩
    ·have YL:=aJ.size;gi_wp2_with fail;go_roundw
     case rel=>
      refine⟨pre ++ [b],r.extract 0 a.length,S3,rfl,by rw[uJ.out];exact kD,?_,vn,pa,by omega,λk e=>?_⟩
      ·rw[HP.out,HS.out,HA.out];simp
      ·rcases pj k e with e | e
       ·exact bd k e
       ·right;omega
     case measure=>show (r.extract 0 a.length).size<r.size;rw[uJ.out];omega
    ·gi_wp2_with fail;refine bodyPost_ret (results_none rfl _ _ _) rfl ?_;refine⟨⟨_,rfl⟩,.inr ⟨_,S3,HX.out,vq,λk e=>?_⟩⟩;rcases pj k e with e | e
     ·exact bd k e
     ·right;omega
end
namespace D
open Go.RowKit Go.Shelf
attribute [local go_sem] Oper.semAt_some
def ud(pre:List (List UInt8)):Bool:=pre.getLast? == some [42]
def Dt(w:World)(xs:List (List UInt8))(pre:List (List UInt8))(S:Nat->Prop)(W:World):Prop:=
 (∀ k,S k↔k=w.heap.size\/k=w.heap.size+1\/k=w.heap.size+1+1)/\Boxed W w.heap.size 4 (.bool false)/\Boxed W (w.heap.size+1) 3 (.int .i64 pre.length)/\Boxed W (w.heap.size+1+1) 4 (.bool (ud pre))/\
 (pre.length<=8/\∀ rest,xs=pre++rest->Np.fh xs 0 false=Np.fh rest pre.length (ud pre))/\Below w.heap.size w W
def Du(w:World)(xs:List (List UInt8))(c:Code)(_:List (List UInt8))(S:Nat->Prop)(W:World):Prop:=
 c = .ret/\(∀ k,S k↔k=w.heap.size\/k=w.heap.size+1\/k=w.heap.size+1+1)/\Boxed W w.heap.size 4 (.bool false)/\Np.fh xs 0 false=false/\Below w.heap.size w W
theorem RC(w:World)(xs:List (List UInt8))(B:Nat)(hB:w.heap.size<=B):fq B (Dt w xs):=by
 rintro s S W W' ⟨hS,h1,h2,h3,h4,h5⟩ av;exact⟨hS,jU h1 av ((hS _).2 (.inl rfl)),jU h2 av ((hS _).2 (.inr (.inl rfl))),jU h3 av ((hS _).2 (.inr (.inr rfl))),h4,uY h5 av hB (bQ _)⟩
theorem aFZ(w:World)(xs:List (List UInt8))(B:Nat)(hB:w.heap.size<=B)(c:Code):fq B (Du w xs c):=by
 rintro s S W W' ⟨hc,hS,h1,h4,h5⟩ av;exact⟨hc,hS,jU h1 av ((hS _).2 (.inl rfl)),h4,uY h5 av hB (bQ _)⟩
theorem Kc{w:World}{xs pre:List (List UInt8)}{S:Nat->Prop}{W W3:World}{a:Act}(hS:∀ k,S k↔k=w.heap.size\/k=w.heap.size+1\/k=w.heap.size+1+1)
 (hr:RdStep S W W3) (aa:∀ k,S k->k<W.heap.size) (c0:Boxed W3 w.heap.size 4 (.bool false)) (hB:Below w.heap.size w W3) (hg:Np.fh xs 0 false=false) :
 mF (Dt w xs) (Du w xs) pre S W .ret a (W3.setCell ⟨w.heap.size,0,none⟩ (.bool false)):=
 ⟨S,hr.setCell (.inl ((hS _).2 (.inl rfl))) _,λ_ e=>.inl e,λk e=>by have:=aa k e;have:=hr.size;simp[World.setCell];omega,rfl,hS,c0.set _,hg,hB.setCell (bQ _) _⟩
theorem RD{w:World}{xs pre rest:List (List UInt8)}{x:List UInt8}{S:Nat->Prop}{W W3:World}{a:Act}(hS:∀ k,S k↔k=w.heap.size\/k=w.heap.size+1\/k=w.heap.size+1+1)
 (hr:RdStep S W W3) (aa:∀ k,S k->k<W.heap.size) (c0:Boxed W3 w.heap.size 4 (.bool false)) (c1:Boxed W3 (w.heap.size+1) 3 (.int .i64 (pre.length+1))) (c2:Boxed W3 (w.heap.size+1+1) 4 (.bool (x == [42])))
 (hB:Below w.heap.size w W3) (rN:pre ++ [x]++rest=xs) (hl:pre.length+1<=8) (hg:Np.fh xs 0 false=Np.fh rest (pre.length+1) (x == [42])) :
 mF (Dt w xs) (Du w xs) (pre ++ [x]) S W .normal a W3:=by
 have hw:ud (pre ++ [x])=(x == [42]):=by simp[ud]
 refine⟨S,hr,λ_ e=>.inl e,λk e=>by have:=aa k e;have:=hr.size;omega,hS,c0,by simpa using c1,by rw[hw];exact c2,⟨by simpa using hl,λr h=>?_⟩,hB⟩
 have:r=rest:=List.append_cancel_left (h.symm.trans rN.symm)
 rw[hg,this,hw];simp
theorem valid_any(t:ByteArray)(ht:t.size<=140737488355328)(w:World) :
 Calls prog 175 #[.string t] w λe w'=>e = .returned (.bool (Np.aG t.data.toList))/\Below w.heap.size w w':=by
 refine (callsIn_wide (n:=0)).1 ?_;refine callsIn_of_wp_marks func175 rfl trivial ?_ rfl;simp only[ntmps175,List.size_toArray,List.length_cons,List.length_nil,Nat.reduceAdd,Nat.reduceSub,Array.replicate_succ,Array.replicate_zero,List.push_toArray,List.append_toArray,List.nil_append,List.cons_append];gi_wp2_with fail
 ·have he:(t.toList == [46])=true:=by assumption
  have kG:t.data.toList = [46]:=by rw[<-dQ];simpa using he
  exact ll (v:=.bool true) (by simp[results,results175,go_sem]) ⟨by rw[Np.aG,Qb kG],(vQ _ _).alloc (bQ _) _⟩
 ·have he:(t.toList == [46])=false:=by assumption
  have kG:¬ t.data.toList = [46]:=by rw[<-dQ];simpa using he
  have hl:60<(t.size:Int):=by assumption
  exact ll (v:=.bool false) (by simp[results,results175,go_sem]) ⟨by rw[Np.aG,Qc kG,Qb (by rw[aZ];omega)],(vQ _ _).alloc (bQ _) _⟩
 ·have he:(t.toList == [46])=false:=by assumption
  have kG:¬ t.data.toList = [46]:=by rw[<-dQ];simpa using he
  have hl:(t.size:Int)<=60:=by assumption
  have hv:Np.aG t.data.toList=Np.fh (Np.back t.data.toList) 0 false:=by
   rw[Np.aG,Qc kG,Qc (by rw[aZ];omega),Np.back,Qc kG]
  have HV:=jq hv;clear hv;have b0:=Boxed.new w 4 (.bool false);have b1:=Boxed.new (w.alloc (.cells #[.bool false] 4)) 3 (.int .i64 0);have b2:=Boxed.new ((w.alloc (.cells #[.bool false] 4)).alloc (.cells #[.int .i64 0] 3)) 4 (.bool false);simp only[World.size_alloc] at b1 b2;refine Fo (n₀:=w.heap.size) (w0:=w) (first:=#[.string t]) (captured:=#[]) (gf:=215) rfl (enters_of func215 (by kernel_rfl) rfl) (mk:=λy=>#[.string t,y]) (λ_=>rfl)
   (Dz t ht _ w) ((((vQ _ w).alloc (bQ _) _).alloc (by simp) _).alloc (by simp;omega) _) (by simp;omega) (λ_=>rfl) (Dt w (Np.back t.data.toList)) (Du w (Np.back t.data.toList))
   (RC _ _ _ (by simp;omega)) (λc=>aFZ _ _ _ (by simp;omega) c)
   (λk=>k=w.heap.size\/k=w.heap.size+1\/k=w.heap.size+1+1) (by intro k h;omega) (by intro k h;simp;omega)
   ⟨λ_=>Iff.rfl,(b0.alloc _).alloc _,b1.alloc _,b2,⟨by simp,λrest h=>by rw[h];rfl⟩,(((vQ _ w).alloc (bQ _) _).alloc (by simp) _).alloc (by simp;omega) _⟩ ?round ?done ?stop
  case round=>
   rintro l0 pre x S W bw hI eu;gi_wp2;refine⟨S,RdStep.refl _ _,λk e=>.inl e,eu,?_⟩;intro l W₂ av;obtain⟨hS,c0,c1,c2,hg,hB⟩:=RC w _ _ (by simp;omega) pre S W W₂ hI av;have c0c:=c0.cell;have c1c:=c1.cell;have c2c:=c2.cell;have c0f:=c0.frozen;have c1f:=c1.frozen;have c2f:=c2.frozen;have hlen:=hg.1;have hx:x∈Np.back t.data.toList:=bw.subset (by simp);have tV:x.length<=60:=by have:=Np.Dy hx;rw[aZ] at this;omega
   have kN:(⟨x.toArray⟩:ByteArray).size<=140737488355328:=by rw[<-aZ];simp;omega
   obtain⟨rest,rN⟩:=bw;have jr:Np.fh (Np.back t.data.toList) 0 false=Np.fh (x::rest) pre.length (ud pre):=hg.2 _ (by rw[<-rN];simp);have HR:=jq rN;have HG:=jq jr;have Bi:∀ (b:Nat) (u:Value),w.heap.size<=b->Below w.heap.size w (W₂.setCell ⟨b,0,none⟩ u):=λb u hb=>hB.setCell (p:=⟨b,0,none⟩) hb u;have lX:∀ k,S k->k<W₂.heap.size:=λk e=>lQ (eu k e) av.size;clear rN jr hg hx;gi_wp2_with (refine⟨trivial,rfl,?_⟩;gi_at_call 245;refine (CallsIn.inRound l (callsIn_wide.2 (ZN _ kN _))).mono ?_;rintro e w' ⟨rfl,rfl⟩)
   ·exact Kc hS (RdStep.setCell (RdStep.refl S W₂) (p:=⟨w.heap.size+1,0,none⟩) (.inl ((hS _).2 (.inr (.inl rfl)))) _) lX (eM c0 (p:=⟨w.heap.size+1,0,none⟩) (by simp) _) (Bi _ _ (by omega))
     (by rw[HG.out];have:ud pre=true:=by assumption
         simp[Np.fh,this])
   ·exact Kc hS (RdStep.setCell (RdStep.refl S W₂) (p:=⟨w.heap.size+1,0,none⟩) (.inl ((hS _).2 (.inr (.inl rfl)))) _) lX (eM c0 (p:=⟨w.heap.size+1,0,none⟩) (by simp) _) (Bi _ _ (by omega))
     (by rw[HG.out];have:8<pre.length+1:=by omega
         simp[Np.fh,this])
   ·have eB:x = [42]:=by assumption
    have e:(x == [42])=true:=by simp[eB]
    have gk:(pre.length:Int)+1<=8:=by assumption
    have h1:¬ ud pre=true:=by assumption
    have h2:¬ 8<pre.length+1:=by omega
    refine⟨trivial,?_⟩;gi_wp2;exact RD hS (RdStep.setCell (RdStep.setCell (RdStep.refl S W₂) (p:=⟨w.heap.size+1,0,none⟩) (.inl ((hS _).2 (.inr (.inl rfl)))) _) (p:=⟨w.heap.size+1+1,0,none⟩) (.inl ((hS _).2 (.inr (.inr rfl)))) _) lX
     (eM (eM c0 (p:=⟨w.heap.size+1,0,none⟩) (by simp) _) (p:=⟨w.heap.size+1+1,0,none⟩) (by simp <;> omega) _)
     (eM (c1.set _) (p:=⟨w.heap.size+1+1,0,none⟩) (by simp <;> omega) _) (by rw[e];exact (eM c2 (p:=⟨w.heap.size+1,0,none⟩) (by simp) _).set _)
     ((Bi _ _ (by omega)).setCell (p:=⟨w.heap.size+1+1,0,none⟩) (by simp;omega) _) HR.out (by omega) (by rw[HG.out];simp[Np.fh,h1,h2,eB])
   ·have hl:(!x == [42])=true/\(!Np.cg x)=true:=by assumption
    have eB:¬ x = [42]:=by assumption
    exact Kc hS (RdStep.setCell (RdStep.setCell (RdStep.refl S W₂) (p:=⟨w.heap.size+1,0,none⟩) (.inl ((hS _).2 (.inr (.inl rfl)))) _) (p:=⟨w.heap.size+1+1,0,none⟩) (.inl ((hS _).2 (.inr (.inr rfl)))) _) lX
     (eM (eM c0 (p:=⟨w.heap.size+1,0,none⟩) (by simp) _) (p:=⟨w.heap.size+1+1,0,none⟩) (by simp <;> omega) _)
     ((Bi _ _ (by omega)).setCell (p:=⟨w.heap.size+1+1,0,none⟩) (by simp;omega) _)
     (by rw[HG.out];have h2:Np.cg x=false:=by simpa using hl.2
         simp[Np.fh,eB,h2])
   ·have hl:(!x == [42])=false\/(!Np.cg x)=false:=by assumption
    have eB:¬ x = [42]:=by assumption
    have e:(x == [42])=false:=by simp[eB]
    have gk:(pre.length:Int)+1<=8:=by assumption
    have h1:¬ ud pre=true:=by assumption
    have h2:¬ 8<pre.length+1:=by omega
    have h3:Np.cg x=true:=by simpa [e] using hl
    exact RD hS (RdStep.setCell (RdStep.setCell (RdStep.refl S W₂) (p:=⟨w.heap.size+1,0,none⟩) (.inl ((hS _).2 (.inr (.inl rfl)))) _) (p:=⟨w.heap.size+1+1,0,none⟩) (.inl ((hS _).2 (.inr (.inr rfl)))) _) lX
     (eM (eM c0 (p:=⟨w.heap.size+1,0,none⟩) (by simp) _) (p:=⟨w.heap.size+1+1,0,none⟩) (by simp <;> omega) _)
     (eM (c1.set _) (p:=⟨w.heap.size+1+1,0,none⟩) (by simp <;> omega) _) ((eM c2 (p:=⟨w.heap.size+1,0,none⟩) (by simp) _).set _)
     ((Bi _ _ (by omega)).setCell (p:=⟨w.heap.size+1+1,0,none⟩) (by simp;omega) _) HR.out (by omega) (by rw[HG.out];simp[Np.fh,h1,h2,eB,h3,e])
  case done=>
   rintro D S W hD fu bd ⟨hS,c0,c1,c2,hg,hB⟩ hK;have c0c:=c0.cell;have c0f:=c0.frozen;have vH:Np.fh (Np.back t.data.toList) 0 false=true:=by rw[hg.2 [] (by simp)];rfl
   have DT:w.heap.size≠D:=λe=>fu ((hS _).2 (.inl e.symm));clear hg;have HE:=jq vH;clear vH;gi_wp2;have hK':(W.setCell ⟨w.heap.size,0,none⟩ (.bool true)).heap[D]?=some (.deferred (some [])):=(wQ _ _ _ _ (by simpa using DT.symm)).trans hK;have c5:=(uZ (c0.set (.bool true)) DT (.deferred none)).cell;exact nN hK' (v:=.bool true) (by simp[results,results175,go_sem,c5]) ⟨by rw[HV.out,HE.out],nL (hB.setCell (bQ _) _) (by simp at hD;omega) _⟩
  case stop=>
   rintro D c pre S W hD fu bd fI ⟨rfl,hS,c0,hg,hB⟩ hK;have DT:w.heap.size≠D:=λe=>fu ((hS _).2 (.inl e.symm));have HE:=jq hg;clear hg;gi_wp2;have c5:=(uZ c0 DT (.deferred none)).cell;exact nN hK (v:=.bool false) (by simp[results,results175,go_sem,c5]) ⟨by rw[HV.out,HE.out],nL hB (by simp at hD;omega) _⟩
theorem nameValid_any(t:ByteArray)(ht:t.size<=140737488355328)(w:World) :
 Calls prog 105 #[.string t] w λe w'=>e = .returned (.bool (Np.aG t.data.toList))/\Below w.heap.size w w':=by
 go_enter func105,ntmps105;go_wp2_with (go_at_call 175;refine (valid_any _ ht _).mono ?_;rintro e w' ⟨rfl,hb⟩);go_ret;exact⟨rfl,hb⟩
end D
section
open Go.RowKit
theorem valid_any(t:ByteArray)(ht:t.size<=140737488355328)(w:World) :
 Calls prog 175 #[.string t] w λe w'=>e = .returned (.bool (Np.aG t.data.toList))/\Below w.heap.size w w':=
 (D.valid_any t ht w).mono λ_ _ h=>⟨h.1,h.2.low⟩
theorem nameValid_any(t:ByteArray)(ht:t.size<=140737488355328)(w:World) :
 Calls prog 105 #[.string t] w λe w'=>e = .returned (.bool (Np.aG t.data.toList))/\Below w.heap.size w w':=
 (D.nameValid_any t ht w).mono λ_ _ h=>⟨h.1,h.2.low⟩
theorem Kk(x lo hi:Int)(w:World) :
 Calls prog 228 #[.int .i64 x,.int .i64 lo,.int .i64 hi] w λe w'=>e = .returned (.bool (decide (lo<=x)&&decide (x<=hi)))/\w=w':=by
 by_cases h1:lo<=x
 all_goals
  go_enter func228,ntmps228;go_wp2;go_ret;exact⟨ag (by simp;omega),rfl⟩
theorem Pz(s:ByteArray)(h:1<=s.size):((s.extract 0 1).toList == [42])=Np.eh s.data.toList:=by
 rw[dQ,DI];unfold Np.eh;have hl:1<=s.data.toList.length:=by rw[aZ];exact h
 cases hd:s.data.toList with
 | nil=>rw[hd] at hl;simp at hl
 | cons a r=>rw[Bool.eq_iff_iff];simp
theorem PA(s:ByteArray)(hs:s.size<=140737488355328)(w:World) :
 Calls prog 229 #[.string s] w λe w'=>e = .returned (.bool (Np.eh s.data.toList))/\w=w':=by
 have h1:1<=s.size->((s.extract 0 1).toList == [42])=Np.eh s.data.toList:=Pz s;have h2:s.size<1->Np.eh s.data.toList=false:=λh=>by
  have:s.data.toList = []:=rQ (by rw[aZ];omega)
  rw[this];rfl
 have H1:=jq h1;have H2:=jq h2;clear h1 h2;go_enter func229,ntmps229;go_wp2
 ·go_ret;exact⟨ag (H1.out (by omega)),rfl⟩
 ·go_ret;exact⟨ag (H2.out (by omega)).symm,rfl⟩
theorem Vs(s t:ByteArray)(w:World) :
 Calls prog 303 #[.string s,.string t] w λe w'=>e = .returned (.int .i64 (Np.cm s.data.toList t.data.toList))/\w=w':=by
 go_enter func303,ntmps303;go_wp2
 ·have h:Op.bytesLess s.toList t.toList=true:=by assumption
  simp only[dQ] at h;go_ret;exact⟨ja (by simp[Np.cm,h]),rfl⟩
 ·have h:Op.bytesLess s.toList t.toList=false:=by assumption
  have h2:(!s.toList == t.toList)=true:=by assumption
  simp only[dQ] at h h2;have h3:¬ s.data.toList=t.data.toList:=by simpa using h2
  go_ret;exact⟨ja (by rw[Np.cm,Qc (by simp[h]),Qc h3]),rfl⟩
 ·have h:Op.bytesLess s.toList t.toList=false:=by assumption
  have h2:(!s.toList == t.toList)=false:=by assumption
  simp only[dQ] at h h2;have h3:s.data.toList=t.data.toList:=by simpa using h2
  go_ret;exact⟨ja (by rw[Np.cm,Qc (by simp[h]),Qb h3]),rfl⟩
theorem AD(s t:Int)(w:World) :
 Calls prog 123 #[.int .i64 s,.int .i64 t] w λe w'=>e = .returned (.int .i64 (Np.cr s t))/\w=w':=by
 go_enter func123,ntmps123;go_wp2
 ·go_ret;exact⟨ja (by rw[Np.cr,Qb ‹_›]),rfl⟩
 ·go_ret;exact⟨ja (by rw[Np.cr,Qc (by omega),Qb ‹_›]),rfl⟩
 ·go_ret;exact⟨ja (by rw[Np.cr,Qc (by omega),Qc (by omega)]),rfl⟩
theorem DM(c:UInt8):Np.nO c=decide ((97<=(c.toNat:Int)/\(c.toNat:Int)<=122)\/(48<=(c.toNat:Int)/\(c.toNat:Int)<=57)\/(c.toNat:Int)=32):=by
 have h:=ot c 32 (by decide);unfold Np.nO Np.qk Np.nh;rw[show (32:UInt8)=UInt8.ofNat 32 from rfl,h,Bool.eq_iff_iff];simp[UInt8.le_iff_toNat_le];omega
theorem Ps(s:ByteArray)(h:(s.size:Int)<1):Np.jC s.data.toList=false:=by
 have:¬ 1<=s.size:=by omega
 simp[Np.jC,this]
theorem Pt(s:ByteArray)(h:40<(s.size:Int)):Np.jC s.data.toList=false:=by
 have:¬ s.size<=40:=by omega
 simp[Np.jC,this]
theorem Pu(s:ByteArray)(h0:0<s.size)(h:(s[0].toNat:Int)=32):Np.jC s.data.toList=false:=by
 have e:=ot s[0] 32 (by decide);rw[uQ (by simpa using h)] at e;have e2:s[0]=(32:UInt8):=by simpa using e
 simp[Np.jC,Bt s h0,e2]
theorem Pv(s:ByteArray)(h0:s.size - 1<s.size)(h:(s[s.size - 1].toNat:Int)=32):Np.jC s.data.toList=false:=by
 have e:=ot s[s.size - 1] 32 (by decide);rw[uQ (by simpa using h)] at e;have e2:s[s.size - 1]=(32:UInt8):=by simpa using e
 simp[Np.jC,EK s h0,e2]
theorem Pw(s:ByteArray)(k:Nat)(hk:k<s.size)(h:Np.nO s[k]=false):Np.jC s.data.toList=false:=by
 have:s.data.toList.all Np.nO=false:=by
  rw[List.all_eq_false];exact⟨s[k],by rw[<-cQ.1 (x9 s k hk) |>.2];exact List.getElem_mem _,by simp[h]⟩
 simp[Np.jC,this]
theorem Px(s:ByteArray)(h1:1<=s.size)(h2:s.size<=40)(h3:¬ (s[0].toNat:Int)=32)(h4:¬ (s[s.size - 1].toNat:Int)=32)(h5:s.data.toList.all Np.nO=true):Np.jC s.data.toList=true:=by
 have e:=ot s[0] 32 (by decide);have e':=ot s[s.size - 1] 32 (by decide);rw[tQ (by simpa using h3)] at e;rw[tQ (by simpa using h4)] at e';have e2:¬ s[0]=(32:UInt8):=by simpa using e
 have e3:¬ s[s.size - 1]=(32:UInt8):=by simpa using e'
 simp[Np.jC,EK s (by omega),Bt s (by omega),e2,e3,h5,h1,h2]
theorem ZG(s:ByteArray)(hs:s.size<=140737488355328)(w:World) :
 Calls prog 301 #[.string s] w λe w'=>e = .returned (.bool (Np.jC s.data.toList))/\w=w':=by
 ·go_enter func301,ntmps301;go_wp2
  rotate_right
  ·go_ret;exact⟨ag (Ps s ‹_›).symm,rfl⟩
  ·go_ret;exact⟨ag (Pt s ‹_›).symm,rfl⟩
  ·go_ret;exact⟨ag (Pu s ‹_› ‹_›).symm,rfl⟩
  ·have h:((s[s.size - 1].toNat:Int) == 32)=true:=by assumption
   go_ret;exact⟨ag (Pv s (by omega) (by simpa using h)).symm,rfl⟩
  ·have h2:(s.size:Int)<=40:=by assumption
   have h3:¬ (s[0].toNat:Int)=32:=by assumption
   have h4:((s[s.size - 1].toNat:Int) == 32)=false:=by assumption
   have H4:=jq h4;clear h4;have H3:=jq h3;go_loop [24] (λi=>∃ k:Nat,k<=s.size/\i = .int .i64 k/\(s.data.toList.take k).all Np.nO=true) (λi=>s.size - (intOf i).toNat)
   case atStart=>exact⟨0,jQ _,rfl,rfl⟩
   case round=>
    obtain⟨k,hk,rfl,ha⟩:=hrel;have HA:=jq ha;clear ha;by_cases aa:k<s.size
    ·have hb:=zg s[k];by_cases hf:(97<=(s[k].toNat:Int)/\(s[k].toNat:Int)<=122)\/(48<=(s[k].toNat:Int)/\(s[k].toNat:Int)<=57)\/(s[k].toNat:Int)=32
     ·have hl:Np.nO s[k]=true:=by rw[DM];exact uQ hf
      have HL:=jq hl;clear hl;go_wp2
      all_goals first
       | (go_round
          case rel=>exact⟨k+1,by omega,by go_num,Hj s k aa _ HA.out HL.out⟩
          case measure=>simp[intOf] <;> omega)
       | (exfalso
          have hne:((s[k].toNat:Int) != 32)=true:=by assumption
          have BO:=bne_iff_ne.1 hne;omega)
     ·have hl:Np.nO s[k]=false:=by rw[DM];exact tQ hf
      have HL:=jq hl;clear hl;go_wp2
      all_goals first
       | (go_ret;exact⟨ag (Pw s k aa HL.out).symm,rfl⟩)
       | (exfalso;omega)
       | (exfalso
          have hne:((s[k].toNat:Int) != 32)=false:=by assumption
          have BO:(s[k].toNat:Int)=32:=by simpa using hne
          omega)
    ·go_wp2;go_ret;exact⟨ag (Px s (by omega) (by omega) H3.out (by simpa using H4.out) (by have:=HA.out;rwa [Ff s k (by omega)] at this)).symm,rfl⟩
end
namespace Np
def cls(c:UInt8):Nat:=
 if c=32\/c=9\/c=10 then 1 else if c=35 then 2 else if qk c||nh c||c == 42 then 3 else if c=45 then 4 else if c=46 then 5 else if c=34 then 6
 else if c=123\/c=125\/c=59\/c=44\/c=61\/c=64 then 7 else 0
def rX(c:UInt8):Bool:=cls c == 3||cls c == 4||cls c == 5
def P5(c:UInt8):Bool:=c != 10
def JB(c:UInt8):Bool:=c != 34&&c != 10
def amJ(r:List UInt8):Nat:=if 1<=(r.takeWhile JB).length/\r[(r.takeWhile JB).length]?=some 34 then (r.takeWhile JB).length+2 else 0
def RK:List UInt8->Nat
 | []=>0
 | c::r=>match cls c with
   | 1=>1
   | 2=>((c::r).takeWhile P5).length
   | 3=>((c::r).takeWhile rX).length
   | 5=>if ((c::r).takeWhile rX).length=1 then 1 else 0
   | 6=>amJ r
   | 7=>1
   | _=>0
structure Tok where
 kind:Int
 text:List UInt8
 n:Int
 pos:Int
deriving DecidableEq
def Tok.zero:Tok:=⟨0,[],0,0⟩
def dec(s:List UInt8):Nat:=s.foldl (λa c=>10 * a+(c.toNat - 48)) 0
def CC(k:Nat)(s:List UInt8):Int×Tok:=
 if k=7 then (0,⟨3,s,0,0⟩)
 else if k=6 then (if 42<s.length then (3,Tok.zero) else (0,⟨1,s,0,0⟩))
 else if s.all nh=false then (if 60<s.length then (3,Tok.zero) else (0,⟨1,s,0,0⟩))
 else if 1<s.length/\s.head?=some 48 then (10,Tok.zero)
 else if 1000000000<dec s then (3,Tok.zero) else (0,⟨2,[],dec s,0⟩)
def od:List UInt8->Nat->Nat->List Tok×Int×Nat
 | [],_,_=>([],0,0)
 | c::r,p,k=>
  let n:=RK (c::r)
  if cls c=1\/cls c=2 then od (r.drop (n - 1)) (p+n) k
  else if n=0 then ([],10,p)
  else if k=2000 then ([],2,p)
  else if (CC (cls c) ((c::r).take n)).1≠0 then ([],(CC (cls c) ((c::r).take n)).1,p)
  else
   let x:=od (r.drop (n - 1)) (p+n) (k+1)
   ({ (CC (cls c) ((c::r).take n)).2 with pos:=p } :: x.1,x.2)
termination_by l=>l.length
decreasing_by all_goals (simp;omega)
def lex(s:List UInt8):List Tok×Int×Nat:=
 if 8000<s.length then ([],2,0) else if (od s 0 0).2.1=0 then ((od s 0 0).1,0,0) else ([],(od s 0 0).2)
end Np
end Go.Proofs.YtfnopgdcaanaiaaGreatDoor
