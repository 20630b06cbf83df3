/- Parts of the proof. No condition. -/
import Derived.Lib.Hide
import Derived.WalkSpells
import Derived.WalkLawsBesides
import Derived.BigGuardPart
import Derived.StillTailTactics
import Derived.Deep.Light
import Derived.Test.YtfnopgdcaanaiaaGreatDoorProg
import Derived.RangeFuncNested
import Derived.RangeFuncBound
import Derived.Shelf.RegionOpen
import Derived.OwnWalkIn
import Derived.LoopNIn
import Derived.LoopIn
import Derived.Shelf.Small.Strs
set_option linter.all false
set_option maxRecDepth 100000
set_option maxHeartbeats 8000000
namespace Go.Proofs.YtfnopgdcaanaiaaGreatDoor
open Go.Proofs.Tryz
section
open Go.RowKit
theorem jq{p:Prop}(h:p):Hid p:=Lib.hid h
theorem cl{B:Nat}{w w':World}(h:Below B w w'){b o:Nat}(hb:b<B):w'.cell? ⟨b,o,none⟩=w.cell? ⟨b,o,none⟩:=h.cell hb
theorem aQ.{u}{α:Type u}{l:List α}{i:Nat}(h:i<l.length):l[i]?=some l[i]:=List.getElem?_eq_getElem h
theorem bQ(n:Nat):n≤n:=Nat.le_refl n
theorem cQ.{u}{α:Type u}{i:Nat}{a:α}{l:List α}:l[i]?=some a↔∃ h:i<l.length,l[i]=a:=List.getElem?_eq_some_iff
theorem dQ(b:ByteArray):b.toList=b.data.toList:=ByteArray.toList_eq b
theorem eQ.{u}{α:Type u}{i:Nat}{b:α}{xs:Array α}:xs[i]?=some b↔∃ h:i<xs.size,xs[i]=b:=Array.getElem?_eq_some_iff
theorem fQ.{u}{α:Type u}{i:Nat}{l:List α}(h:i<l.length):l.take (i+1)=l.take i++[l[i]]:=List.take_succ_eq_append_getElem h
theorem gQ.{u}{α:Type u}{l:List α}{i:Nat}{a:α}(e:l[i]?=some a):a∈l:=List.mem_of_getElem? e
theorem Qh.{u}{α:Type u}{a:α}:¬a∈([]:List α):=List.not_mem_nil
theorem iQ{w w':World}{a:Addr}(h:w'.heap[a.block]?=w.heap[a.block]?):w'.cell? a=w.cell? a:=World.cell?_of_block h
theorem jQ(n:Nat):0≤n:=Nat.zero_le n
theorem kQ.{u}{α:Type u}{i:Nat}{l:List α}(h:l.length≤i):l.take i=l:=List.take_of_length_le h
theorem lQ{n m k:Nat}:n<m→m≤k→n<k:=Nat.lt_of_lt_of_le
theorem mQ.{u}{α:Type u}(y:α){a:α}{l:List α}:a∈l→a∈y::l:=List.mem_cons_of_mem y
theorem nQ.{u}{α:Type u}{a:α}{l:List α}:a∈l↔∃ (i:Nat) (h:i<l.length),l[i]=a:=List.mem_iff_getElem
theorem oQ.{u}{α:Type u}{l₁ l₂:List α}{i:Nat}:l₁.length≤i→(l₁++l₂)[i]?=l₂[i-l₁.length]?:=List.getElem?_append_right
theorem pQ.{u}{α:Type u}{xs:Array α}{i:Nat}(h:i<xs.size):xs[i]?=some xs[i]:=Array.getElem?_eq_getElem h
theorem rQ.{u}{α:Type u}{l:List α}:l.length=0→l=[]:=List.eq_nil_of_length_eq_zero
theorem sQ.{u}{α:Type u}{i:Nat}{l:List α}(h:i<l.length):l.drop i=l[i]::l.drop (i+1):=List.drop_eq_getElem_cons h
theorem tQ{p:Prop}[Decidable p]:¬p→decide p=false:=decide_eq_false
theorem uQ{p:Prop}[Decidable p]:p→decide p=true:=decide_eq_true
theorem vQ(B:Nat)(w:World):Below B w w:=Below.refl B w
theorem wQ(w:World)(a:Addr)(u:Value)(k:Nat)(h:k≠a.block):(w.setCell a u).heap[k]?=w.heap[k]?:=Below.heap_setCell w a u k h
theorem xQ(w:World)(a b:Addr)(v:Value)(h:a≠b):(w.setCell a v).cell? b=w.cell? b:=World.cell?_setCell_other w a b v h
theorem yQ{n m k:Nat}:n≤m→m≤k→n≤k:=Nat.le_trans
theorem zQ{r k:Nat}{o:Obj}{w:World}(h:k≠r):(w.putObj r o).heap[k]?=w.heap[k]?:=World.putObj_heap_other h
theorem Qa{p:Prop}[Decidable p]:(decide p=true)=p:=decide_eq_true_eq
theorem Qb.{u}{c:Prop}{h:Decidable c}(hc:c){α:Sort u}{t e:α}:ite c t e=t:=if_pos hc
theorem Qc.{u}{c:Prop}{h:Decidable c}(hn:¬c){α:Sort u}{t e:α}:ite c t e=e:=if_neg hn
theorem Qd.{u,v}{α:Sort u}{β:Sort v}{a b:α}(f:α->β)(h:a=b):f a=f b:=congrArg f h
theorem aaJ{B:Nat}{w w':World}(h:Below B w w'){b o:Nat}{v:Option Value}(e:w.cell? ⟨b,o,none⟩=v)(hb:b<B:=by omega):w'.cell? ⟨b,o,none⟩=v:=(h.cell hb).trans e
theorem acZ{n m:Nat}{a b c:World}(h:Hid (Below n a b))(k:Below m b c)(e:n≤m:=by omega):Hid (Below n a c):=jq (h.out.trans (k.mono e))
theorem acY.{u}{α:Sort u}(e:α):∃ r,r=e:=⟨_,rfl⟩
abbrev a0X(n:Nat)(w:World)(v:Value)(e:Ending)(w':World):Prop:=e = .returned v/\Below n w w'
abbrev a1Q(w:World)(v:Value)(e:Ending)(w':World):Prop:=e = .returned v/\w=w'
abbrev a1Z(α:Type):=World->Nat->List Value->α->Prop
theorem acJ.{u}{α:Sort u}(e:α):∃ r,e=r:=⟨_,rfl⟩
theorem _root_.Go.RowKit.Below.adZ{n m:Nat}{a b:World}(h:Below m a b)(e:n≤m:=by omega):Below n a b:=h.mono e
theorem adJ{p:Prop}[Decidable p](h:¬p:=by omega):decide p=false:=decide_eq_false h
theorem adK{p:Prop}[Decidable p](h:p:=by omega):decide p=true:=decide_eq_true h
theorem aZQ.{u}{α:Type u}{a b:α}(h:a=b:=by kernel_rfl):some a=some b:=congrArg some h
def bk(w:World):Type:={ x:World // Below w.heap.size w x }
def bk.w{w:World}(g:bk w):World:=g.1
theorem bk.below{w:World}(g:bk w):Below w.heap.size w g.w:=g.2
instance (w:World):Nonempty (bk w):=⟨⟨w,vQ _ _⟩⟩
theorem bk.cell{w:World}(g:bk w)(p:Addr)(h:p.block<w.heap.size):g.w.cell? p=w.cell? p:=g.2.cell h
theorem bk.frozen{w:World}(g:bk w)(p:Addr)(h:p.block<w.heap.size):g.w.frozen? p=w.frozen? p:=g.2.frozen h
theorem bk.size{w:World}(g:bk w):w.heap.size<=g.w.heap.size:=g.2.size
def zY(w:World)(w':World):Prop:=∃ g:bk w,w'=g.w
theorem zY.of{w w':World}(h:Below w.heap.size w w'):zY w w':=⟨⟨w',h⟩,rfl⟩
theorem Calls.grow_of{P:Program}{f:FuncId}{args:Array Value}{w:World}{g:bk w}{v:Value}
 (h:Calls P f args g.w λe w'=>e = .returned v/\Below g.w.heap.size g.w w'):Calls P f args g.w λe w''=>e = .returned v/\∃ g':bk w,w''=g'.w:=
 h.mono λ_ w' ⟨he,hm⟩=>⟨he,⟨w',g.2.trans (hm.mono g.2.size)⟩,rfl⟩
section
variable {P:Program}
theorem ef{id:Nat}{Q:Exit->Act->World->Prop}{a:Act}{w:World}{l:List Oper}(hm:P.follows .mixedOrders=true)(hB:Region.lexB .any l.toArray=true)
 (h:wpQuiet P l.toArray (λw'=>∃ g:bk w,w'=g.w) (λa'=>∀ w',(∃ g:bk w,w'=g.w)->Q .normal a' w') l a):(Code.region id l.toArray true).wp P Q a w:=
 wp_region_quiet (C:=λw'=>∃ g:bk w,w'=g.w) hm hB ⟨⟨_,(vQ w.heap.size w).drew⟩,rfl⟩ (by simpa using h)
end
theorem tV{W w1:World}(hb:Below W.heap.size W w1):(∀ b o,b<W.heap.size->w1.cell? ⟨b,o,none⟩=W.cell? ⟨b,o,none⟩)/\(∀ b o,b<W.heap.size->w1.frozen? ⟨b,o,none⟩=W.frozen? ⟨b,o,none⟩):=
 ⟨λb o h=>hb.cell (p:=⟨b,o,none⟩) h,λb o h=>hb.frozen (p:=⟨b,o,none⟩) h⟩
theorem ag{a b:Bool}(h:a=b):Ending.returned (.bool a) = .returned (.bool b):=by rw[h]
theorem j5{k:IntKind}{a b:Int}(h:a=b):Ending.returned (.int k a) = .returned (.int k b):=by rw[h]
theorem bn(s:ByteArray):s.data.toList.length=s.size:=rfl
theorem yW(s:ByteArray)(k:Nat)(h:k<s.size):s.data.toList[k]?=some s[k]:=by
 rw[aQ (by rw[bn];exact h)];rfl
theorem B6(s:ByteArray)(h:0<s.size):s.data.toList.head?=some s[0]:=by
 rw[List.head?_eq_getElem?];exact yW s 0 h
theorem Fr(s:ByteArray)(h:s.size - 1<s.size):s.data.toList.getLast?=some s[s.size - 1]:=by
 rw[List.getLast?_eq_getElem?,bn];exact yW s _ h
theorem Lr(s:ByteArray)(k:Nat)(h:k<s.size):s.data.toList.take (k+1)=s.data.toList.take k ++ [s[k]]:=by
 rw[fQ (by simpa using h)];rfl
theorem FZ(s:ByteArray)(k:Nat)(h:s.size<=k):s.data.toList.take k=s.data.toList:=kQ (by rw[bn];exact h)
theorem pw(c:UInt8)(n:Nat)(hn:n<256):(c == UInt8.ofNat n)=decide ((c.toNat:Int)=n):=by
 rw[Bool.eq_iff_iff];simp only[beq_iff_eq,Qa];constructor
 ·rintro rfl;simp;omega
 ·intro h;apply UInt8.toNat_inj.1;simp;omega
theorem zP(c:UInt8):0<=(c.toNat:Int)/\(c.toNat:Int)<=255:=by have:=UInt8.toNat_lt c;omega
theorem j9{s t:ByteArray}(h:s.data.toList=t.data.toList):s=t:=by
 cases s;cases t;simp only at h |-;congr 1;exact Array.toList_inj.1 h
theorem IX(s:ByteArray)(i j:Nat):(s.extract i j).data.toList=(s.data.toList.take j).drop i:=by
 rw[ByteArray.data_extract];simp[Array.toList_extract,List.extract_eq_take_drop,List.drop_take]
theorem Ea(s:ByteArray)(i:Nat):(s.extract i s.size).data.toList=s.data.toList.drop i:=by
 rw[IX,kQ (by rw[bn];exact bQ _)]
theorem Eb(s:ByteArray)(j:Nat):(s.extract 0 j).data.toList=s.data.toList.take j:=by rw[IX];rfl
theorem Td{P:Program}{id:Nat}{Q:Exit->Act->World->Prop}{a:Act}{w:World}{l:List Oper}(n:Nat)(hm:P.follows .mixedOrders=true)(hB:Region.lexTailB .any l.toArray n=true)
 (h:wpStill P l.toArray w.drew (λa'=>wpList P l.toArray Q (l.drop n) a' w.drew) (l.take n) a):(Code.region id l.toArray true).wp P Q a w:=wp_region_still_tail n hm hB h
theorem Calls.still_same{P:Program}{f:FuncId}{args:Array Value}{w:World}{v:Value}(h:Calls P f args w λe w'=>e = .returned v/\w=w'):Calls P f args w λe w''=>e = .returned v/\w''=w:=
 h.mono λ_ _ ⟨he,hw⟩=>⟨he,hw.symm⟩
def eh(w:World)(b o:Nat)(e:List Value):Prop:=∀ j v,e[j]?=some v->w.cell? ⟨b,o+j,none⟩=some v
theorem eh.keep{w w':World}{b o:Nat}{e:List Value}{B:Nat}(h:eh w b o e)(hb:Below B w w')(hB:b<B):eh w' b o e:=
 λj v hj=>(hb.cell (p:=⟨b,o+j,none⟩) hB).trans (h j v hj)
def SlR{α:Type}(R:a1Z α)(sz:Nat)(w:World)(B:Nat)(v:Value)(xs:List α):Prop:=
 ∃ (A:Option Addr) (c:Nat),v = .slice A xs.length c/\xs.length<=c/\xs.length<=140737488355328/\∀ i x,xs[i]?=some x->∃ b o e,A=some ⟨b,o,none⟩/\b<B/\e.length=sz/\eh w b (o+i * sz) e/\R w B e x
def ep{α:Type}(R:a1Z α):Prop:=∀ w w' B e x,R w B e x->Below B w w'->R w' B e x
theorem SlR.keep{α:Type}{R:a1Z α}{sz:Nat}{w w':World}{B:Nat}{v:Value}{xs:List α}(hR:ep R)(h:SlR R sz w B v xs)(hb:Below B w w'):SlR R sz w' B v xs:=by
 obtain⟨A,c,hv,hc,hl,he⟩:=h;refine⟨A,c,hv,hc,hl,λi x hx=>?_⟩;obtain⟨b,o,e,hA,hB,bU,hce,hr⟩:=he i x hx;exact⟨b,o,e,hA,hB,bU,hce.keep hb hB,hR _ _ _ _ _ hr hb⟩
def eL{α:Type}(R:a1Z α):Prop:=∀ w B B' e x,R w B e x->B<=B'->R w B' e x
theorem SlR.more{α:Type}{R:a1Z α}{sz:Nat}{w:World}{B B':Nat}{v:Value}{xs:List α}(hR:eL R)(h:SlR R sz w B v xs)(hB:B<=B'):SlR R sz w B' v xs:=by
 obtain⟨A,c,hv,hc,hl,he⟩:=h;refine⟨A,c,hv,hc,hl,λi x hx=>?_⟩;obtain⟨b,o,e,hA,hb,bU,hce,hr⟩:=he i x hx;exact⟨b,o,e,hA,by omega,bU,hce,hR _ _ _ _ _ hr hB⟩
theorem a0Z{P:Program}{id:Nat}{Q:Exit->Act->World->Prop}{a:Act}{w:World}{l:List Oper}(h:wpQuiet P l.toArray (λw'=>∃ g:bk w,w'=g.w) (λa'=>∀ w',(∃ g:bk w,w'=g.w)->Q .normal a' w') l a)(hm:P.follows .mixedOrders=true:=by kernel_rfl)(hB:Region.lexB .any l.toArray=true:=by kernel_rfl):(Code.region id l.toArray true).wp P Q a w:=ef hm hB h
end
namespace Np
def rF(c:UInt8):Bool:=97<=c&&c<=122
def n9(c:UInt8):Bool:=48<=c&&c<=57
def mT(c:UInt8):Bool:=rF c||n9 c||c == 45
def cM(l:List UInt8):Bool:=decide (1<=l.length)&&decide (l.length<=12)&&!(l.head? == some 45)&&!(l.getLast? == some 45)&&l.all mT
def Iz(l:List UInt8)(c:UInt8)(r:Int):Prop:=(r = -1/\c∉l)\/∃ a b,l=a++c::b/\c∉b/\r=a.length
def bg:List UInt8->List (List UInt8)
 | []=>[[]]
 | c::r=>if c=46 then []::bg r else match bg r with
   | x::xs=>(c::x)::xs
   | []=>[[c]]
theorem rN(l:List UInt8):bg l≠[]:=by
 cases l with
 | nil=>simp[bg]
 | cons c r=>
  unfold bg;split
  ·simp
  ·split <;> simp
theorem zL{l:List UInt8}(h:46∉l):bg l = [l]:=by
 induction l with
 | nil=>rfl
 | cons c r ih=>
  have h1:c≠46:=λe=>h (by simp[e]);have h2:46∉r:=λe=>h (by simp[e]);unfold bg;rw[Qc h1,ih h2]
theorem C6(a b:List UInt8):bg (a++46::b)=bg a++bg b:=by
 induction a with
 | nil=>simp[bg]
 | cons c r ih=>
  rw[List.cons_append];by_cases h:c=46
  ·rw[bg,Qb h,bg,Qb h,ih];rfl
  ·rw[bg,Qc h,bg,Qc h,ih];have hne:=rN r
   cases hr:bg r with
   | nil=>exact absurd hr hne
   | cons x xs=>rfl
def back(l:List UInt8):List (List UInt8):=if l = [46] then [] else (bg l).reverse
def gh:List (List UInt8)->Nat->Bool->Bool
 | [],_,_=>true
 | x::xs,n,wild=>if wild||decide (8<n+1) then false else if x = [42] then gh xs (n+1) true else if cM x then gh xs (n+1) false else false
def aD(l:List UInt8):Bool:=if l = [46] then true else if 60<l.length then false else gh (bg l).reverse 0 false
theorem Ll{l y:List UInt8}(h:y∈bg l):y.length<=l.length:=by
 induction l generalizing y with
 | nil=>simp[bg] at h;subst h;simp
 | cons c r ih=>
  unfold bg at h;split at h
  ·rcases List.mem_cons.1 h with e | e
   ·subst e;simp
   ·have:=ih e;simp;omega
  ·split at h
   ·rename_i x xs hx;rcases List.mem_cons.1 h with e | e
    ·subst e;have:=ih (y:=x) (by rw[hx];simp);simp;omega
    ·have:=ih (y:=y) (by rw[hx];simp[e]);simp;omega
   ·simp at h;subst h;simp
theorem DX{l y:List UInt8}(h:y∈back l):y.length<=l.length:=by
 unfold back at h;split at h
 ·cases h
 ·exact Ll (List.mem_reverse.1 h)
def oZ(c:UInt8):Bool:=rF c||n9 c||c == 32
def kD(l:List UInt8):Bool:=decide (1<=l.length)&&decide (l.length<=40)&&!(l.head? == some 32)&&!(l.getLast? == some 32)&&l.all oZ
def eD(l:List UInt8):Bool:=l.head? == some 42
structure Rule where
 text:Int
 leastN:Int
 mostN:Int
 leastM:Int
 mostM:Int
 even:Bool
 single:Bool
 wild:Bool
structure Datum where
 text:List UInt8
 n:Int
 m:Int
deriving DecidableEq
def yc(k:Int)(l:List UInt8):Bool:=if k=1 then aD l&&!eD l else if k=2 then aD l else if k=3 then kD l else l == []
def kb(r:Rule)(d:Datum):Bool:=
 (decide (r.leastN<=d.n)&&decide (d.n<=r.mostN))&&(decide (r.leastM<=d.m)&&decide (d.m<=r.mostM))&&!(r.even&&(d.n.tmod 2 != 0))&&yc r.text d.text
def cV(a b:List UInt8):Int:=if Go.Op.bytesLess a b then -1 else if a=b then 0 else 1
def de(a b:Int):Int:=if a<b then -1 else if b<a then 1 else 0
def re(a b:Datum):Int:=if cV a.text b.text≠0 then cV a.text b.text else if de a.n b.n≠0 then de a.n b.n else de a.m b.m
def rules:List Rule:=[⟨0,0,0,0,0,false,false,false⟩,⟨0,1,1000000,0,0,false,false,true⟩,⟨1,0,0,0,0,false,false,false⟩,⟨1,0,0,0,0,false,true,false⟩,⟨0,0,65535,0,100000,false,true,false⟩,
 ⟨3,0,0,0,0,false,false,true⟩,⟨0,1,1000000,1,3,false,false,false⟩,⟨0,1,1000000,1,3,false,false,false⟩,⟨2,2,510,0,0,true,false,true⟩]
def ci(k:Int):Rule:=rules.getD k.toNat ⟨0,0,0,0,0,false,false,false⟩
structure DSet where
 name:List UInt8
 type:Int
 life:Int
 data:List Datum
deriving DecidableEq
def jI(r:Rule):Option Datum->List Datum->Bool
 | _,[]=>true
 | p,d::ds=>kb r d&&(match p with | none=>true | some q=>decide (re q d<0))&&jI r (some d) ds
def cZ(s:DSet):Bool:=
 aD s.name&&(decide (1<=s.type)&&decide (s.type<=8))&&(decide (0<=s.life)&&decide (s.life<=100000))&&(decide (1<=s.data.length)&&decide (s.data.length<=8)) &&
 !((ci s.type).single&&decide (s.data.length≠1))&&!(eD s.name&&!(ci s.type).wild)&&jI (ci s.type) none s.data
theorem OP{r:Rule}{p:Option Datum}{ds:List Datum}{j:Nat}{d:Datum}(hd:ds[j]?=some d)(h:kb r d=false):jI r p (ds.drop j)=false:=by
 rw[sQ (cQ.1 hd).1,(cQ.1 hd).2];simp[jI,h]
theorem OQ{r:Rule}{ds:List Datum}{d:Datum}(hd:ds[0]?=some d)(h:kb r d=true):jI r (ds.take 0).getLast? (ds.drop 0)=jI r (ds.take 1).getLast? (ds.drop 1):=by
 cases ds with
 | nil=>simp at hd
 | cons x r=>simp at hd;subst hd;simp[jI,h]
theorem OR{r:Rule}{ds:List Datum}{j:Nat}{q d:Datum}(hq:ds[j]?=some q)(hd:ds[j+1]?=some d)(h:kb r d=true) :
 jI r (ds.take (j+1)).getLast? (ds.drop (j+1))=if re q d<0 then jI r (ds.take (j+1+1)).getLast? (ds.drop (j+1+1)) else false:=by
 have h1:=(cQ.1 hq);have h2:=(cQ.1 hd);rw[sQ h2.1,h2.2,fQ h1.1,h1.2,fQ h2.1,h2.2];simp only[List.getLast?_append,List.getLast?_singleton,Option.some_or,jI,h];split <;> rename_i hc <;> simp[hc]
end Np
section
open Go.RowKit
theorem Rb(c:UInt8):Np.mT c=decide ((97<=(c.toNat:Int)/\(c.toNat:Int)<=122)\/(48<=(c.toNat:Int)/\(c.toNat:Int)<=57)\/(c.toNat:Int)=45):=by
 have h:=pw c 45 (by decide);unfold Np.mT Np.rF Np.n9;rw[show (45:UInt8)=UInt8.ofNat 45 from rfl,h,Bool.eq_iff_iff];simp[UInt8.le_iff_toNat_le];omega
theorem aeX(s:ByteArray)(h:(s.size:Int)<1):Np.cM s.data.toList=false:=by
 have:¬ 1<=s.size:=by omega
 simp[Np.cM,this]
theorem aeY(s:ByteArray)(h:12<(s.size:Int)):Np.cM s.data.toList=false:=by
 have:¬ s.size<=12:=by omega
 simp[Np.cM,this]
theorem afQ(s:ByteArray)(h0:0<s.size)(h:(s[0].toNat:Int)=45):Np.cM s.data.toList=false:=by
 have e:=pw s[0] 45 (by decide);rw[uQ (by simpa using h)] at e;have e2:s[0]=(45:UInt8):=by simpa using e
 simp[Np.cM,B6 s h0,e2]
theorem afZ(s:ByteArray)(h0:s.size - 1<s.size)(h:(s[s.size - 1].toNat:Int)=45):Np.cM s.data.toList=false:=by
 have e:=pw s[s.size - 1] 45 (by decide);rw[uQ (by simpa using h)] at e;have e2:s[s.size - 1]=(45:UInt8):=by simpa using e
 simp[Np.cM,Fr s h0,e2]
theorem afJ(s:ByteArray)(k:Nat)(hk:k<s.size)(h:Np.mT s[k]=false):Np.cM s.data.toList=false:=by
 have:s.data.toList.all Np.mT=false:=by
  rw[List.all_eq_false];exact⟨s[k],by rw[<-cQ.1 (yW s k hk) |>.2];exact List.getElem_mem _,by simp[h]⟩
 simp[Np.cM,this]
theorem afK(s:ByteArray)(h1:1<=s.size)(h2:s.size<=12)(h3:¬ (s[0].toNat:Int)=45)(h4:¬ (s[s.size - 1].toNat:Int)=45)(h5:s.data.toList.all Np.mT=true):Np.cM s.data.toList=true:=by
 have e:=pw s[0] 45 (by decide);have e':=pw s[s.size - 1] 45 (by decide);rw[tQ (by simpa using h3)] at e;rw[tQ (by simpa using h4)] at e';have e2:¬ s[0]=(45:UInt8):=by simpa using e
 have e3:¬ s[s.size - 1]=(45:UInt8):=by simpa using e'
 simp[Np.cM,Fr s (by omega),B6 s (by omega),e2,e3,h5,h1,h2]
theorem II(s:ByteArray)(k:Nat)(h:k<s.size)(p:UInt8->Bool)(h1:(s.data.toList.take k).all p=true)(h2:p s[k]=true):(s.data.toList.take (k+1)).all p=true:=by
 rw[Lr s k h,List.all_append,h1];simp[h2]
theorem afX(s:ByteArray)(hs:s.size<=140737488355328)(w:World) :
 Calls prog 245 #[.string s] w (a1Q w (.bool (Np.cM s.data.toList))):=by
 go_enter func245,ntmps245;go_wp2
 ·go_ret;exact⟨ag (aeX s ‹_›).symm,rfl⟩
 ·go_ret;exact⟨ag (aeY s ‹_›).symm,rfl⟩
 ·go_ret;exact⟨ag (afQ s ‹_› ‹_›).symm,rfl⟩
 ·have h:((s[s.size - 1].toNat:Int) == 45)=true:=by assumption
  go_ret;exact⟨ag (afZ s (by omega) (by simpa using h)).symm,rfl⟩
 ·have h1:1<=(s.size:Int):=by assumption
  have h2:(s.size:Int)<=12:=by assumption
  have h3:¬ (s[0].toNat:Int)=45:=by assumption
  have h4:((s[s.size - 1].toNat:Int) == 45)=false:=by assumption
  have H4:=jq h4;clear h4;have H3:=jq h3;go_loop [28] (λi=>∃ k:Nat,k<=s.size/\i = .int .i64 k/\(s.data.toList.take k).all Np.mT=true) (λi=>s.size - (intOf i).toNat)
  case atStart=>exact⟨0,jQ _,rfl,rfl⟩
  case round=>
   obtain⟨k,hk,rfl,ha⟩:=hrel;have HA:=jq ha;clear ha;by_cases ab:k<s.size
   ·have hb:=zP s[k];go_wp2
    all_goals first
     | (have hne:((s[k].toNat:Int) != 45)=true:=by assumption
        have Cr:=bne_iff_ne.1 hne;go_ret;exact⟨ag (afJ s k ab (by rw[Rb];exact adJ)).symm,rfl⟩)
     | (have hl:Np.mT s[k]=true:=by
         rw[Rb];refine uQ ?_
         first
          | omega
          | (have hne:((s[k].toNat:Int) != 45)=false:=by assumption
             have Cr:(s[k].toNat:Int)=45:=by simpa using hne
             omega)
        go_round
        case rel=>exact⟨k+1,by omega,by go_num,II s k ab _ HA.out hl⟩
        case measure=>simp[intOf] <;> omega)
   ·go_wp2;go_ret;exact⟨ag (afK s (by omega) (by omega) H3.out (by simpa using H4.out) (by have:=HA.out;rwa [FZ s k (by omega)] at this)).symm,rfl⟩
theorem aPK(c:Int)(h0:0<=c)(h1:c<=255)(x:UInt8):x=UInt8.ofNat c.toNat↔(x.toNat:Int)=c:=by
 have h:=pw x c.toNat (by omega);rw[Bool.eq_iff_iff] at h;simp only[beq_iff_eq,Qa] at h;rw[h];omega
theorem ajJ(s:ByteArray)(c:UInt8)(h:c∉s.data.toList.drop 0):Np.Iz s.data.toList c (-1):=.inl ⟨rfl,by simpa using h⟩
theorem ajK(s:ByteArray)(c:UInt8)(k:Nat)(hk:k<s.size)(h:c∉s.data.toList.drop (k+1))(hc:s[k]=c):Np.Iz s.data.toList c (k:Int):=by
 refine .inr ⟨s.data.toList.take k,s.data.toList.drop (k+1),?_,h,?_⟩
 ·subst hc;rw[show s[k]=s.data.toList[k]'(by rw[bn];exact hk) from rfl,<-sQ,List.take_append_drop]
 ·simp;have:=bn s;simp at this;omega
theorem WX(s:ByteArray)(c:UInt8)(k:Nat)(hk:k<s.size)(h:c∉s.data.toList.drop (k+1))(hc:¬ s[k]=c):c∉s.data.toList.drop k:=by
 rw[sQ (by rw[bn];exact hk)];intro hm;rcases List.mem_cons.1 hm with e | e
 ·exact hc e.symm
 ·exact h e
def LT(s:ByteArray)(c:UInt8)(w:World)(e:Ending)(w':World):Prop:=∃ r:Int,Np.Iz s.data.toList c r/\e = .returned (.int .i64 r)/\w=w'
theorem ajX(s:ByteArray)(hs:s.size<=140737488355328)(c:Int)(h0:0<=c)(h1:c<=255)(w:World) :
 Calls prog 345 #[.string s,.int .u8 c] w (LT s (UInt8.ofNat c.toNat) w):=by
 go_enter func345,ntmps345;go_wp2;go_loop [5] (λi=>∃ k:Int,-1<=k/\k<s.size/\i = .int .i64 k/\Hid (UInt8.ofNat c.toNat∉s.data.toList.drop (k+1).toNat)) (λi=>(intOf i+1).toNat)
 case atStart=>exact⟨_,by omega,by omega,rfl,jq (by rw[List.drop_eq_nil_of_le (by rw[bn];omega)];simp)⟩
 case round=>
  obtain⟨k,bJ,bI,rfl,H⟩:=hrel;by_cases ab:0<=k
  ·obtain⟨j,rfl⟩:=Int.eq_ofNat_of_zero_le ab;have hj:j<s.size:=by omega
   have hb:=zP s[j];have hd:=aPK c h0 h1 s[j];have HD:=jq hd;clear hd;go_wp2
   all_goals first
    | (have he:((s[j].toNat:Int) == c)=true:=by assumption
       go_ret;exact⟨j,ajK s _ j hj (by simpa using H.out) (HD.out.2 (by simpa using he)),rfl,rfl⟩)
    | (have he:((s[j].toNat:Int) == c)=false:=by assumption
       go_round
       case rel=>exact⟨(j:Int) - 1,by omega,by omega,rfl,jq (by have:=WX s _ j hj (by simpa using H.out) (λe=>by have:=HD.out.1 e;simp[this] at he);simpa using this)⟩
       case measure=>simp[intOf] <;> omega)
  ·obtain rfl:k = -1:=by omega
   go_wp2;go_ret;exact⟨-1,ajJ s _ (by simpa using H.out),rfl,rfl⟩
theorem KR(s:ByteArray)(hs:s.size<=140737488355328)(c:Int)(h0:0<=c)(h1:c<=255)(w:World) :
 Calls prog 298 #[.string s,.int .u8 c] w (LT s (UInt8.ofNat c.toNat) w):=by
 go_enter func298,ntmps298;go_wp2_with (go_at_call 345;refine (ajX _ hs _ h0 h1 _).mono ?_;rintro e w' ⟨r,hr,rfl,rfl⟩);go_ret;exact⟨r,hr,rfl,rfl⟩
end
namespace D
open Go.RowKit
structure Below(B:Nat)(w w':World):Prop where
 os:w'.os=w.os
 tape:w'.tape=w.tape
 output:w'.output=w.output
 size:w.heap.size<=w'.heap.size
 block:∀ k,k<B->w'.heap[k]?=w.heap[k]?
 drawn:w.drawn<=w'.drawn
theorem Below.low{B:Nat}{w w':World}(h:Below B w w'):Go.RowKit.Below B w w':=⟨h.os,h.tape,h.output,h.size,h.block⟩
theorem vQ(B:Nat)(w:World):Below B w w:=⟨rfl,rfl,rfl,bQ _,λ_ _=>rfl,bQ _⟩
theorem Below.trans{B:Nat}{a b c:World}(h:Below B a b)(k:Below B b c):Below B a c:=
 ⟨k.os.trans h.os,k.tape.trans h.tape,k.output.trans h.output,yQ h.size k.size,λi hi=>(k.block i hi).trans (h.block i hi),yQ h.drawn k.drawn⟩
theorem Below.mono{B B':Nat}{w w':World}(h:Below B w w')(hB:B'<=B):Below B' w w':=⟨h.os,h.tape,h.output,h.size,λk hk=>h.block k (lQ hk hB),h.drawn⟩
theorem Below.drew{B:Nat}{a w:World}(h:Below B a w):Below B a w.drew:=⟨h.os,h.tape,h.output,h.size,h.block,Nat.le_succ_of_le h.drawn⟩
theorem Below.heap_alloc(w:World)(o:Obj)(k:Nat)(h:k<w.heap.size):(w.alloc o).heap[k]?=w.heap[k]?:=Go.RowKit.Below.heap_alloc w o k h
theorem wQ(w:World)(a:Addr)(u:Value)(k:Nat)(h:k≠a.block):(w.setCell a u).heap[k]?=w.heap[k]?:=Go.RowKit.Below.heap_setCell w a u k h
theorem Below.alloc{B:Nat}{a w:World}(h:Below B a w)(hB:B<=w.heap.size)(o:Obj):Below B a (w.alloc o):=
 h.trans ⟨rfl,rfl,rfl,by simp,λk hk=>Below.heap_alloc _ _ _ (by omega),bQ _⟩
theorem Below.setCell{B:Nat}{a w:World}(h:Below B a w){p:Addr}(hp:B<=p.block)(u:Value):Below B a (w.setCell p u):=
 h.trans ⟨rfl,rfl,rfl,by simp[World.setCell],λk hk=>wQ _ _ _ _ (by omega),bQ _⟩
theorem Below.cell{B:Nat}{w w':World}(h:Below B w w'){p:Addr}(hp:p.block<B):w'.cell? p=w.cell? p:=h.low.cell hp
theorem Below.frozen{B:Nat}{w w':World}(h:Below B w w'){p:Addr}(hp:p.block<B):w'.frozen? p=w.frozen? p:=h.low.frozen hp
structure ItStep(B:Nat)(S:Nat->Prop)(W W':World):Prop where
 os:W'.os=W.os
 tape:W'.tape=W.tape
 output:W'.output=W.output
 size:W.heap.size<=W'.heap.size
 keep:∀ k,k<W.heap.size->(k<B\/S k)->W'.heap[k]?=W.heap[k]?
 drawn:W.drawn<=W'.drawn
structure RdStep(S:Nat->Prop)(W W':World):Prop where
 os:W'.os=W.os
 tape:W'.tape=W.tape
 output:W'.output=W.output
 size:W.heap.size<=W'.heap.size
 keep:∀ k,k<W.heap.size->¬ S k->W'.heap[k]?=W.heap[k]?
 drawn:W.drawn<=W'.drawn
theorem ItStep.refl(B:Nat)(S:Nat->Prop)(W:World):ItStep B S W W:=⟨rfl,rfl,rfl,bQ _,λ_ _ _=>rfl,bQ _⟩
theorem RdStep.refl(S:Nat->Prop)(W:World):RdStep S W W:=⟨rfl,rfl,rfl,bQ _,λ_ _ _=>rfl,bQ _⟩
theorem ItStep.trans{B:Nat}{S:Nat->Prop}{A W C:World}(h:ItStep B S A W)(k:ItStep B S W C):ItStep B S A C:=
 ⟨k.os.trans h.os,k.tape.trans h.tape,k.output.trans h.output,yQ h.size k.size,λi hi hs=>(k.keep i (lQ hi h.size) hs).trans (h.keep i hi hs),yQ h.drawn k.drawn⟩
theorem RdStep.trans{S S':Nat->Prop}{A W C:World}(h:RdStep S A W)(k:RdStep S' W C)(hS:∀ i,S' i->S i\/A.heap.size<=i):RdStep S A C:=
 ⟨k.os.trans h.os,k.tape.trans h.tape,k.output.trans h.output,yQ h.size k.size,λi hi hs=>
  (k.keep i (lQ hi h.size) (λe=>by rcases hS i e with e | e;exact hs e;omega)).trans (h.keep i hi hs),yQ h.drawn k.drawn⟩
theorem RdStep.mono{S S':Nat->Prop}{A W:World}(h:RdStep S A W)(hS:∀ i,S i->S' i):RdStep S' A W:=
 ⟨h.os,h.tape,h.output,h.size,λi hi hs=>h.keep i hi (λe=>hs (hS i e)),h.drawn⟩
theorem ItStep.of_below{B:Nat}{S:Nat->Prop}{A W:World}(h:Below A.heap.size A W):ItStep B S A W:=
 ⟨h.os,h.tape,h.output,h.size,λk hk _=>h.block k hk,h.drawn⟩
theorem RdStep.of_below{S:Nat->Prop}{A W:World}(h:Below A.heap.size A W):RdStep S A W:=
 ⟨h.os,h.tape,h.output,h.size,λk hk _=>h.block k hk,h.drawn⟩
theorem RdStep.below{S:Nat->Prop}{A W:World}{n:Nat}(h:RdStep S A W)(hn:n<=A.heap.size)(hS:∀ k,S k->n<=k):Below n A W:=
 ⟨h.os,h.tape,h.output,h.size,λk hk=>h.keep k (by omega) (λe=>by have:=hS k e;omega),h.drawn⟩
theorem RdStep.setCell{S:Nat->Prop}{A W:World}(h:RdStep S A W){p:Addr}(hp:S p.block\/A.heap.size<=p.block)(u:Value):RdStep S A (W.setCell p u):=
 ⟨h.os,h.tape,h.output,by simpa [World.setCell] using h.size,λk hk hs=>(wQ _ _ _ _ (by rintro rfl;rcases hp with hp | hp;exact hs hp;omega)).trans (h.keep k hk hs),h.drawn⟩
theorem RdStep.alloc{S:Nat->Prop}{A W:World}(h:RdStep S A W)(o:Obj):RdStep S A (W.alloc o):=
 ⟨h.os,h.tape,h.output,yQ h.size (by simp),λk hk hs=>(Below.heap_alloc _ _ _ (lQ hk h.size)).trans (h.keep k hk hs),h.drawn⟩
theorem RdStep.drew{S:Nat->Prop}{A W:World}(h:RdStep S A W):RdStep S A W.drew:=⟨h.os,h.tape,h.output,h.size,h.keep,Nat.le_succ_of_le h.drawn⟩
theorem RdStep.then_below{S:Nat->Prop}{A W C:World}(h:RdStep S A W)(k:Below W.heap.size W C):RdStep S A C:=
 ⟨k.os.trans h.os,k.tape.trans h.tape,k.output.trans h.output,yQ h.size k.size,λi hi hs=>(k.block i (lQ hi h.size)).trans (h.keep i hi hs),yQ h.drawn k.drawn⟩
def gp{β:Type}(B:Nat)(J:β->(Nat->Prop)->World->Prop):Prop:=∀ s S W W',J s S W->ItStep B S W W'->J s S W'
def DU{α:Type}(J Jx:List α->(Nat->Prop)->World->Prop)(pre:List α)(x:α)(S:Nat->Prop)(W:World)(e:Ending)(W':World):Prop:=
 ∃ S':Nat->Prop,RdStep S W W'/\(∀ k,S' k->S k\/W.heap.size<=k)/\(∀ k,S' k->k<W'.heap.size)/\
   ((e = .returned (.bool true)/\J (pre ++ [x]) S' W')\/(e = .returned (.bool false)/\Jx (pre ++ [x]) S' W'))
def vX{α:Type}(P:Program)(gf:FuncId)(mk:Value->Array Value)(encs:α->Array Value)(xs:List α)(n₀:Nat)(w:World):Prop:=
 ∀ (l:Nat) (J Jx:List α->(Nat->Prop)->World->Prop) (S:Nat->Prop) (W:World),Below n₀ w W->
   gp W.heap.size J->gp W.heap.size Jx->
   (∀ pre x S1 W1,pre ++ [x] <+: xs->J pre S1 W1->(∀ k,S1 k->k<W1.heap.size)->W.heap.size<=W1.heap.size->
     YieldAt Fence.wide 0 P l (encs x) W1 (DU J Jx pre x S1 W1))->
   (∀ k,S k->n₀<=k)->(∀ k,S k->k<W.heap.size)->J [] S W->
   CallsIn Fence.wide 0 P gf (mk (.func (.yield l) #[] #[])) W λe W'=>(∃ v,e = .returned v)/\
    ((∃ S',J xs S' W'/\(∀ k,S' k->S k\/W.heap.size<=k))\/(∃ pre S',pre <+: xs/\Jx pre S' W'/\(∀ k,S' k->S k\/W.heap.size<=k)))
def nG{α:Type}(I:List α->(Nat->Prop)->World->Prop)(Ix:Code->List α->(Nat->Prop)->World->Prop)(xs:List α)(S:Nat->Prop)(W:World):Exit->Act->World->Prop
 | .normal,_,W'=>∃ S',RdStep S W W'/\(∀ k,S' k->S k\/W.heap.size<=k)/\(∀ k,S' k->k<W'.heap.size)/\I xs S' W'
 | .ret,_,W'=>∃ S',RdStep S W W'/\(∀ k,S' k->S k\/W.heap.size<=k)/\(∀ k,S' k->k<W'.heap.size)/\Ix .ret xs S' W'
 | .exit id,_,W'=>∃ S',RdStep S W W'/\(∀ k,S' k->S k\/W.heap.size<=k)/\(∀ k,S' k->k<W'.heap.size)/\Ix (.exit id) xs S' W'
 | _,_,_=>False
theorem jW{B:Nat}{S:Nat->Prop}{W:World}{l:Nat}(o:Obj)(hl:B<=l)(hS:¬ S l):ItStep B S W (W.putObj l o):=
 ⟨rfl,rfl,rfl,by simp,λk _ hk=>zQ (by rintro rfl;rcases hk with hk | hk;omega;exact hS hk),bQ _⟩
theorem uP{B:Nat}{S:Nat->Prop}{W:World}(o:Obj):ItStep B S W (W.alloc o):=
 ⟨rfl,rfl,rfl,by simp,λk hk _=>Below.heap_alloc _ _ _ hk,bQ _⟩
theorem ItStep.weaken{B B':Nat}{S S':Nat->Prop}{W W':World}(h:ItStep B S W W')(hB:B'<=B)(hS:∀ k,S' k->S k):ItStep B' S' W W':=
 ⟨h.os,h.tape,h.output,h.size,λk hk hs=>h.keep k hk (hs.imp (λe=>by omega) (hS k)),h.drawn⟩
theorem LM{α:Type}{P:Program}{g:Operand}{ps:Array Tmp}{assign body:Code}{Q:Exit->Act->World->Prop}{a:Act}{w:World}
 {gf:FuncId} {first captured:Array Value} (hg:a.eval g = .func (.func gf) first captured) (eg:∀ args w,(callFunc gf args).run P w = .ok (.enter gf args) w)
 {mk:Value->Array Value} {encs:α->Array Value} {xs:List α} {n₀:Nat} {w0:World} (gY:∀ y,mk y=first ++ #[y]++captured)
 (hit:vX P gf mk encs xs n₀ w0) (cP:Below n₀ w0 w) (lM:n₀<=w.heap.size) (fT:∀ x,(encs x).size=ps.size)
 (I:List α->(Nat->Prop)->World->Prop) (Ix:Code->List α->(Nat->Prop)->World->Prop) (A:List α->α->(Nat->Prop)->Act->World->Prop)
 (hI:gp w.heap.size I) (jp:∀ c,gp w.heap.size (Ix c)) (hA:∀ pre x S a' W W',A pre x S a' W->ItStep w.heap.size S W W'->A pre x S a' W')
 (S0:Nat->Prop) (qa:∀ k,S0 k->n₀<=k) (kY:∀ k,S0 k->k<w.heap.size) (h0:I [] S0 w)
 (BQ:∀ (l:Nat) (pre:List α) (x:α) (S:Nat->Prop) (W:World),pre ++ [x] <+: xs->I pre S W->(∀ k,S k->k<W.heap.size)->
   assign.wpIn (Fence.wide.inRound l) 0 P (Exit.then (λa₁ W₁=>∃ S',RdStep S W W₁/\(∀ k,S' k->S k\/W.heap.size<=k)/\(∀ k,S' k->k<W₁.heap.size)/\A pre x S' a₁ W₁) (λ_ _ _=>False))
    { tmps:=(ps.zip (encs x)).foldl (λt (p,v)=>t.setIfInBounds p v) a.tmps,defers:=[] } W)
 (BW:∀ (l:Nat) (pre:List α) (x:α) (S:Nat->Prop) (a₁:Act) (W:World),pre ++ [x] <+: xs->A pre x S a₁ W->(∀ k,S k->k<W.heap.size)->
   body.wpIn (Fence.wide.inRound l) 0 P (nG I Ix (pre ++ [x]) S W) a₁ W)
 (mc:∀ (D:Nat) (S:Nat->Prop) (W:World),w.heap.size<=D->¬ S D->(∀ k,S k->S0 k\/w.heap.size<=k)->I xs S W->W.heap[D]?=some (.deferred (some []))->
   Q .normal { a with defers:={ target:=.collected D,args:=#[] } :: a.defers } W)
 (mj:∀ (D:Nat) (c:Code) (pre:List α) (S:Nat->Prop) (W:World),w.heap.size<=D->¬ S D->(∀ k,S k->S0 k\/w.heap.size<=k)->pre <+: xs->Ix c pre S W->W.heap[D]?=some (.deferred (some []))->
   c.wpIn Fence.wide 0 P Q { a with defers:={ target:=.collected D,args:=#[] } :: a.defers } W) :
 (Code.rangeFunc g ps assign body).wpIn Fence.wide 0 P Q a w:=by
 refine wpIn_rangeFunc ?_;intro fn gj;show ∃ (l:Nat) (mark:List Deferred) (w₁:World) (d:Deferred) (w₁':World) (f:FuncId) (args:Array Value) (w₂:World),(Instr.enterLoop fn a.tmps ps assign body none).run P w = .ok (l,mark) w₁/\_;obtain⟨rec,fU⟩:∃ rec:LoopState->Option Code->Loop,rec=λst pe=>{ state:=st,pending:=pe,fn,tmps:=a.tmps,params:=ps,assign,body,defers:=w.heap.size }:=⟨_,rfl⟩;obtain⟨W1,am⟩:=acJ ((w.alloc (.deferred (some []))).alloc (.loop (rec .ready none)));have an:W1.heap.size=w.heap.size+2:=by rw[<-am];simp
 have iM:W1.heap[w.heap.size+1]?=some (.loop (rec .ready none)):=by
  rw[<-am];have:=World.alloc_heap_new (w.alloc (.deferred (some []))) (.loop (rec .ready none));rwa [World.size_alloc] at this
 have BG:W1.heap[w.heap.size]?=some (.deferred (some [])):=by
  rw[<-am];exact (Below.heap_alloc _ _ _ (by simp)).trans (World.alloc_heap_new w _)
 have mC:I [] S0 W1:=by rw[<-am];exact hI _ _ _ _ (hI _ _ _ _ h0 (uP _)) (uP _)
 have ay:Below n₀ w0 W1:=by
  rw[<-am];exact cP.trans ((((vQ _ w).alloc (bQ _) _).alloc (by simp) _).mono lM)
 refine⟨w.heap.size+1,[{ target:=.collected w.heap.size,args:=#[] }],W1,{ target:=.fn (.func gf) captured,args:=first ++ #[.func (.yield (w.heap.size+1)) #[] #[]] },W1,gf,
  first ++ #[.func (.yield (w.heap.size+1)) #[] #[]]++captured,W1,?_,?_,?_,?_,λh=>by simp[Fence.wide] at h,?_⟩
 ·rw[<-am,fU];exact run_enterLoop_outer _ _ _ _ _
 ·simp only[resolve,hg];simp[go_sem]
 ·intro f' _;trivial
 ·simp[invoke,go_sem,eg]
 ·rw[<-gY];have key:=hit (w.heap.size+1)
   (λpre Si W=>∃ S:Nat->Prop,(∀ k,Si k↔S k\/k=w.heap.size+1)/\(¬ S w.heap.size)/\(¬ S (w.heap.size+1))/\(∀ k,S k->S0 k\/w.heap.size<=k)/\I pre S W/\W.heap[w.heap.size+1]?=some (.loop (rec .ready none))/\W.heap[w.heap.size]?=some (.deferred (some [])))
   (λpre Si W=>∃ (S:Nat->Prop) (c:Code),(∀ k,Si k↔S k\/k=w.heap.size+1)/\(¬ S w.heap.size)/\(¬ S (w.heap.size+1))/\(∀ k,S k->S0 k\/w.heap.size<=k)/\Ix c pre S W/\W.heap[w.heap.size+1]?=some (.loop (rec .done (some c)))/\W.heap[w.heap.size]?=some (.deferred (some [])))
   (λk=>S0 k\/k=w.heap.size+1) W1 ay ?_ ?_ ?_ ?_ ?_ ?_
  ·refine key.mono ?_;rintro e W2 ⟨⟨v,rfl⟩,(⟨S',⟨S,dH,hD,hL,bE,hi,hl,hk⟩,_⟩ | ⟨pre,S',gI,⟨S,c,dH,hD,hL,bE,hi,hl,hk⟩,_⟩)⟩
   ·refine⟨none,_,by have:=run_endLoop (P:=P) hl (by rw[fU];simp);rw[fU] at this;exact this,?_⟩;exact mc _ S _ (bQ _) hD bE (hI _ _ _ _ hi (jW _ (by omega) hL)) ((zQ (by omega)).trans hk)
   ·refine⟨some c,_,by have:=run_endLoop (P:=P) hl (by rw[fU];simp);rw[fU] at this;exact this,?_⟩;exact mj _ c pre S _ (bQ _) hD bE gI ((jp c) _ _ _ _ hi (jW _ (by omega) hL)) ((zQ (by omega)).trans hk)
  ·rintro pre Si A1 B1 ⟨S,dH,hD,hL,bE,hi,hl,hk⟩ aB;have ab:w.heap.size+1<A1.heap.size:=(eQ.1 hl).1;exact⟨S,dH,hD,hL,bE,hI _ _ _ _ hi (aB.weaken (by omega) (λk e=>(dH k).2 (.inl e))),(aB.keep _ ab (.inl (by omega))).trans hl,(aB.keep _ (by omega) (.inl (by omega))).trans hk⟩
  ·rintro pre Si A1 B1 ⟨S,c,dH,hD,hL,bE,hi,hl,hk⟩ aB;have ab:w.heap.size+1<A1.heap.size:=(eQ.1 hl).1;exact⟨S,c,dH,hD,hL,bE,jp c _ _ _ _ hi (aB.weaken (by omega) (λk e=>(dH k).2 (.inl e))),(aB.keep _ ab (.inl (by omega))).trans hl,(aB.keep _ (by omega) (.inl (by omega))).trans hk⟩
  ·
   rintro pre x Si W ba ⟨S,dH,hD,hL,bE,hi,hl,hk⟩ fR Jl;have ab:w.heap.size+1<W.heap.size:=(eQ.1 hl).1;have BN:∀ k,S k->k<W.heap.size:=λk e=>fR k ((dH k).2 (.inl e));have hy:=run_yield (P:=P) (args:=encs x) hl (by rw[fU];exact fT x);rw[fU] at hy;refine⟨fn,_,assign,body,hy,roundIn_of_wpIn gj (wpIn_mono (BQ _ pre x S W ba hi BN) ?_)⟩;intro e a1 Wa hq
   cases e with
   | normal=>
    obtain⟨S1,gJ,bK,CD,BB⟩:=hq;have uu:¬ S1 w.heap.size:=λe=>by rcases bK _ e with e | e;exact hD e;omega
    have qk:¬ S1 (w.heap.size+1):=λe=>by rcases bK _ e with e | e;exact hL e;omega
    have jO:Wa.heap[w.heap.size+1]?=some (.loop (rec .ready none)):=(gJ.keep _ ab hL).trans hl;have Ci:Wa.heap[w.heap.size]?=some (.deferred (some [])):=(gJ.keep _ (by omega) hD).trans hk;have ur:w.heap.size+1<Wa.heap.size:=(eQ.1 jO).1;refine⟨_,run_beginRound jO (by rw[fU]),?_⟩;have hb:=BW (w.heap.size+1) pre x S1 a1 (Wa.putObj (w.heap.size+1) (.loop { rec .ready none with state:=.busy })) ba (hA _ _ _ _ _ _ BB (jW _ (by omega) qk)) (λk e=>by simpa using CD k e);refine wpIn_mono hb ?_;have fin:∀ (jump:Option Code) (W3:World) (S3:Nat->Prop),RdStep S1 (Wa.putObj (w.heap.size+1) (.loop { rec .ready none with state:=.busy })) W3->(∀ k,S3 k->S1 k\/(Wa.putObj (w.heap.size+1) (.loop { rec .ready none with state:=.busy })).heap.size<=k)->(∀ k,S3 k->k<W3.heap.size)->
     (Instr.endRound (w.heap.size+1) jump).run P W3 = .ok (.bool jump.isNone) (W3.putObj (w.heap.size+1) (.loop (rec (if jump.isNone then .ready else .done) jump)))/\
     (W3.putObj (w.heap.size+1) (.loop (rec (if jump.isNone then .ready else .done) jump))).heap[w.heap.size+1]?=some (.loop (rec (if jump.isNone then .ready else .done) jump))/\
     (W3.putObj (w.heap.size+1) (.loop (rec (if jump.isNone then .ready else .done) jump))).heap[w.heap.size]?=some (.deferred (some []))/\
     ¬ S3 w.heap.size/\¬ S3 (w.heap.size+1)/\(∀ k,S3 k->S k\/W.heap.size<=k)/\
     RdStep Si W (W3.putObj (w.heap.size+1) (.loop (rec (if jump.isNone then .ready else .done) jump))):=λjump W3 S3 dz dX dC=>by
     have eU:(Wa.putObj (w.heap.size+1) (.loop { rec .ready none with state:=.busy })).heap[w.heap.size+1]?=some (.loop { rec .ready none with state:=.busy }):=World.putObj_heap_same ur;have jN:(Wa.putObj (w.heap.size+1) (.loop { rec .ready none with state:=.busy })).heap[w.heap.size]?=some (.deferred (some [])):=(zQ (by omega)).trans Ci;have nW:=(dz.keep _ (by simpa using ur) qk).trans eU;have mH:=(dz.keep _ (by simp;omega) uu).trans jN;have nX:=(eQ.1 nW).1
     have:=run_endRound (P:=P) jump nW
     rw[fU] at this |-;have lN:=dz.size;have uH:=gJ.size;simp only[World.putObj_size] at lN dX;refine⟨this,World.putObj_heap_same nX,(zQ (by omega)).trans mH,λe=>?_,λe=>?_,λk e=>?_,?_⟩
     ·rcases dX _ e with e | e;exact uu e;omega
     ·rcases dX _ e with e | e;exact qk e;omega
     ·rcases dX _ e with e | e
      ·exact bK _ e
      ·right;omega
     ·refine⟨dz.os.trans gJ.os,dz.tape.trans gJ.tape,dz.output.trans gJ.output,by simp;omega,λk hk' uv=>?_,yQ gJ.drawn dz.drawn⟩;have mJ:k≠w.heap.size+1:=λe=>uv ((dH k).2 (.inr e));have uw:¬ S k:=λe=>uv ((dH k).2 (.inl e));have Cq:¬ S1 k:=λe=>by rcases bK _ e with e | e;exact uw e;omega
      exact (zQ mJ).trans ((dz.keep k (by simp;omega) Cq).trans ((zQ mJ).trans (gJ.keep k hk' uw)))
    have fin2:∀ (S3:Nat->Prop) (W3:World) (o:Obj),(∀ k,S3 k->k<W3.heap.size)->W.heap.size<=W3.heap.size->(∀ k,S3 k->S k\/W.heap.size<=k)->
     (∀ k,(S3 k\/k=w.heap.size+1)->Si k\/W.heap.size<=k)/\(∀ k,(S3 k\/k=w.heap.size+1)->k<(W3.putObj (w.heap.size+1) o).heap.size):=λS3 W3 o h1 h2 h3=>
     ⟨λk e=>by rcases e with e | e;exact (h3 k e).imp (λe'=>(dH k).2 (.inl e')) id;exact .inl ((dH k).2 (.inr e)),λk e=>by
      simp only[World.putObj_size];rcases e with e | e
      ·exact h1 k e
      ·omega⟩
    have sub3:∀ (S3:Nat->Prop),(∀ k,S3 k->S k\/W.heap.size<=k)->∀ k,S3 k->S0 k\/w.heap.size<=k:=λS3 h k e=>by
     rcases h k e with e | e
     ·exact bE k e
     ·right;omega
    rintro e a3 W3 hp
    cases e with
    | normal=>
     obtain⟨S3,dz,dX,dC,lc⟩:=hp;obtain⟨hr,ld,ky,jR,gH,eI,aM⟩:=fin none W3 S3 dz dX dC;have an:W.heap.size<=W3.heap.size:=by simpa using aM.size
     refine⟨_,_,hr,λk=>S3 k\/k=w.heap.size+1,aM,(fin2 S3 W3 (.deferred none) dC an eI).1,(fin2 S3 W3 _ dC an eI).2,.inl ⟨rfl,S3,λ_=>Iff.rfl,jR,gH,sub3 S3 eI,hI _ _ _ _ lc (jW _ (by omega) gH),ld,ky⟩⟩
    | ret=>
     obtain⟨S3,dz,dX,dC,lc⟩:=hp;obtain⟨hr,ld,ky,jR,gH,eI,aM⟩:=fin (some .ret) W3 S3 dz dX dC;have an:W.heap.size<=W3.heap.size:=by simpa using aM.size
     refine⟨_,_,hr,λk=>S3 k\/k=w.heap.size+1,aM,(fin2 S3 W3 (.deferred none) dC an eI).1,(fin2 S3 W3 _ dC an eI).2,.inr ⟨rfl,S3,.ret,λ_=>Iff.rfl,jR,gH,sub3 S3 eI,jp _ _ _ _ _ lc (jW _ (by omega) gH),ld,ky⟩⟩
    | exit id=>
     obtain⟨S3,dz,dX,dC,lc⟩:=hp;obtain⟨hr,ld,ky,jR,gH,eI,aM⟩:=fin (some (.exit id)) W3 S3 dz dX dC;have an:W.heap.size<=W3.heap.size:=by simpa using aM.size
     refine⟨_,_,hr,λk=>S3 k\/k=w.heap.size+1,aM,(fin2 S3 W3 (.deferred none) dC an eI).1,(fin2 S3 W3 _ dC an eI).2,.inr ⟨rfl,S3,.exit id,λ_=>Iff.rfl,jR,gH,sub3 S3 eI,jp _ _ _ _ _ lc (jW _ (by omega) gH),ld,ky⟩⟩
    | goto t=>exact hp.elim
    | panic ch=>exact hp.elim
    | outgrown=>exact hp.elim
   | ret=>exact hq.elim
   | exit id=>exact hq.elim
   | goto t=>exact hq.elim
   | panic ch=>exact hq.elim
   | outgrown=>exact hq.elim
  ·rintro k (e | rfl)
   ·exact qa k e
   ·omega
  ·rintro k (e | rfl)
   ·have:=kY k e;omega
   ·omega
  ·exact⟨S0,λ_=>Iff.rfl,λe=>by have:=kY _ e;omega,λe=>by have:=kY _ e;omega,λ_ e=>.inl e,mC,iM,BG⟩
theorem kU{B:Nat}{S:Nat->Prop}{W W':World}{b:Nat}{t:TypeId}{v:Value}(h:Boxed W b t v)(hs:ItStep B S W W')(hb:S b):Boxed W' b t v:=(hs.keep b h.lt (.inr hb)).trans h
theorem wh{n B:Nat}{S:Nat->Prop}{w W W':World}(h:Below n w W)(hs:ItStep B S W W')(hB:n<=B)(hn:n<=w.heap.size):Below n w W':=
 ⟨hs.os.trans h.os,hs.tape.trans h.tape,hs.output.trans h.output,yQ h.size hs.size,λk hk=>(hs.keep k (by have:=h.size;omega) (.inl (by omega))).trans (h.block k hk),yQ h.drawn hs.drawn⟩
theorem DZ{S:Nat->Prop}{W W':World}{b:Nat}{t:TypeId}{v:Value}(h:Boxed W b t v)(hs:RdStep S W W')(hb:¬ S b):Boxed W' b t v:=(hs.keep b h.lt hb).trans h
theorem cU{n:Nat}{W W':World}{b:Nat}{t:TypeId}{v:Value}(h:Boxed W b t v)(hs:Below n W W')(hb:b<n):Boxed W' b t v:=(hs.block b hb).trans h
theorem fO{W:World}{b:Nat}{t:TypeId}{v:Value}(h:Boxed W b t v){p:Addr}(hp:b≠p.block)(u:Value):Boxed (W.setCell p u) b t v:=(wQ W p u b hp).trans h
theorem kV{P:Program}{fn:Func}{R:Ending->World->Prop}{tmps:Array Value}{w:World}{v:Value}(s5:(results fn tmps).run P w = .ok v w)(hR:R (.returned v) w) :
 bodyPostM Fence.wide 0 P fn R .ret { tmps:=tmps,defers:=[] } w:=⟨_,s5,hR⟩
theorem nJ{P:Program}{fn:Func}{R:Ending->World->Prop}{tmps:Array Value}{W:World}{D:Nat}{v:Value}(hK:W.heap[D]?=some (.deferred (some [])))
 (s5:(results fn tmps).run P (W.putObj D (.deferred none)) = .ok v (W.putObj D (.deferred none))) (hR:R (.returned v) (W.putObj D (.deferred none))) :
 bodyPostM Fence.wide 0 P fn R .ret { tmps:=tmps,defers:=[{ target:=.collected D,args:=#[] }] } W:=
 ⟨by simp,.inl ⟨_,_,rfl,run_takeDeferred hK,_,s5,hR⟩⟩
theorem mA{n D:Nat}{w W:World}(h:Below n w W)(hD:n<=D)(o:Obj):Below n w (W.putObj D o):=
 ⟨h.os,h.tape,h.output,by simpa using h.size,λk hk=>(zQ (by omega)).trans (h.block k hk),h.drawn⟩
theorem wk{W:World}{b D:Nat}{t:TypeId}{v:Value}(h:Boxed W b t v)(hD:b≠D)(o:Obj):Boxed (W.putObj D o) b t v:=(zQ hD).trans h
theorem F6{α:Type}{P:Program}{g:Operand}{ps:Array Tmp}{assign body:Code}{Q:Exit->Act->World->Prop}{a:Act}{w:World}
 {gf:FuncId} {first captured:Array Value} (hg:a.eval g = .func (.func gf) first captured) (eg:∀ args w,(callFunc gf args).run P w = .ok (.enter gf args) w)
 {mk:Value->Array Value} {encs:α->Array Value} {xs:List α} {n₀:Nat} {w0:World} (gY:∀ y,mk y=first ++ #[y]++captured)
 (hit:vX P gf mk encs xs n₀ w0) (cP:Below n₀ w0 w) (lM:n₀<=w.heap.size) (fT:∀ x,(encs x).size=ps.size)
 (I:List α->(Nat->Prop)->World->Prop) (Ix:Code->List α->(Nat->Prop)->World->Prop)
 (hI:gp w.heap.size I) (jp:∀ c,gp w.heap.size (Ix c))
 (S0:Nat->Prop) (qa:∀ k,S0 k->n₀<=k) (kY:∀ k,S0 k->k<w.heap.size) (h0:I [] S0 w)
 (CC:∀ (l0:Nat) (pre:List α) (x:α) (S:Nat->Prop) (W:World),pre ++ [x] <+: xs->I pre S W->(∀ k,S k->k<W.heap.size)->
   assign.wpIn (Fence.wide.inRound l0) 0 P (Exit.then (λa₁ W₁=>∃ S',RdStep S W W₁/\(∀ k,S' k->S k\/W.heap.size<=k)/\(∀ k,S' k->k<W₁.heap.size)/\
    ∀ l W₂,ItStep w.heap.size S' W₁ W₂->body.wpIn (Fence.wide.inRound l) 0 P (nG I Ix (pre ++ [x]) S' W₂) a₁ W₂) (λ_ _ _=>False))
    { tmps:=(ps.zip (encs x)).foldl (λt (p,v)=>t.setIfInBounds p v) a.tmps,defers:=[] } W)
 (mc:∀ (D:Nat) (S:Nat->Prop) (W:World),w.heap.size<=D->¬ S D->(∀ k,S k->S0 k\/w.heap.size<=k)->I xs S W->W.heap[D]?=some (.deferred (some []))->
   Q .normal { a with defers:={ target:=.collected D,args:=#[] } :: a.defers } W)
 (mj:∀ (D:Nat) (c:Code) (pre:List α) (S:Nat->Prop) (W:World),w.heap.size<=D->¬ S D->(∀ k,S k->S0 k\/w.heap.size<=k)->pre <+: xs->Ix c pre S W->W.heap[D]?=some (.deferred (some []))->
   c.wpIn Fence.wide 0 P Q { a with defers:={ target:=.collected D,args:=#[] } :: a.defers } W) :
 (Code.rangeFunc g ps assign body).wpIn Fence.wide 0 P Q a w:=
 LM hg eg gY hit cP lM fT I Ix (λpre x S a₁ W=>∀ l W₂,ItStep w.heap.size S W W₂->body.wpIn (Fence.wide.inRound l) 0 P (nG I Ix (pre ++ [x]) S W₂) a₁ W₂)
  hI jp (λ_ _ _ _ _ _ h hs l W₂ h2=>h l W₂ (hs.trans h2)) S0 qa kY h0 CC (λl _ _ _ _ W _ h _=>h l W (ItStep.refl _ _ _)) mc mj
def bk(w:World):Type:={ x:World // Below w.heap.size w x }
def bk.w{w:World}(g:bk w):World:=g.1
theorem bk.below{w:World}(g:bk w):Below w.heap.size w g.w:=g.2
instance (w:World):Nonempty (bk w):=⟨⟨w,vQ _ _⟩⟩
theorem bk.cell{w:World}(g:bk w)(p:Addr)(h:p.block<w.heap.size):g.w.cell? p=w.cell? p:=g.2.cell h
theorem bk.frozen{w:World}(g:bk w)(p:Addr)(h:p.block<w.heap.size):g.w.frozen? p=w.frozen? p:=g.2.frozen h
theorem bk.size{w:World}(g:bk w):w.heap.size<=g.w.heap.size:=g.2.size
def zY(w:World)(w':World):Prop:=∃ g:bk w,w'=g.w
theorem zY.of{w w':World}(h:Below w.heap.size w w'):zY w w':=⟨⟨w',h⟩,rfl⟩
theorem Calls.grow_of{P:Program}{f:FuncId}{args:Array Value}{w:World}{g:bk w}{v:Value}
 (h:Calls P f args g.w λe w'=>e = .returned v/\Below g.w.heap.size g.w w'):Calls P f args g.w λe w''=>e = .returned v/\∃ g':bk w,w''=g'.w:=
 h.mono λ_ w' ⟨he,hm⟩=>⟨he,⟨w',g.2.trans (hm.mono g.2.size)⟩,rfl⟩
section
variable {P:Program}
theorem ef{id:Nat}{Q:Exit->Act->World->Prop}{a:Act}{w:World}{l:List Oper}(hm:P.follows .mixedOrders=true)(hB:Region.lexB .any l.toArray=true)
 (h:wpQuiet P l.toArray (λw'=>∃ g:bk w,w'=g.w) (λa'=>∀ w',(∃ g:bk w,w'=g.w)->Q .normal a' w') l a):(Code.region id l.toArray true).wp P Q a w:=
 wp_region_quiet (C:=λw'=>∃ g:bk w,w'=g.w) hm hB ⟨⟨_,(vQ w.heap.size w).drew⟩,rfl⟩ (by simpa using h)
end
theorem tV{W w1:World}(hb:Below W.heap.size W w1):(∀ b o,b<W.heap.size->w1.cell? ⟨b,o,none⟩=W.cell? ⟨b,o,none⟩)/\(∀ b o,b<W.heap.size->w1.frozen? ⟨b,o,none⟩=W.frozen? ⟨b,o,none⟩):=
 ⟨λb o h=>hb.cell (p:=⟨b,o,none⟩) h,λb o h=>hb.frozen (p:=⟨b,o,none⟩) h⟩
end D
namespace D
open Go.RowKit Go.Shelf
attribute [local go_sem] Oper.semAt_some
abbrev aA(l:List UInt8):Value:=.string ⟨l.toArray⟩
def Lo:Value->Nat
 | .string s=>s.size
 | _=>0
def Gb(t:ByteArray)(J:List (List UInt8)->(Nat->Prop)->World->Prop)(S:Nat->Prop)(W:World)(v:Value)(wr:World):Prop:=
 ∃ (pre:List (List UInt8)) (r:ByteArray) (S1:Nat->Prop),v = .string r/\r.size<=140737488355328/\Np.back t.data.toList=pre++(Np.bg r.data.toList).reverse/\
   J pre S1 wr/\(∀ k,S1 k->k<wr.heap.size)/\W.heap.size<=wr.heap.size/\(∀ k,S1 k->S k\/W.heap.size<=k)
theorem DY(t:ByteArray)(ht:t.size<=140737488355328)(n₀:Nat)(w:World) :
 vX prog 215 (λy=>#[.string t,y]) (λx:List UInt8=>#[aA x]) (Np.back t.data.toList) n₀ w:=by
 intro l J Jx S W hW hJ Es hY hS hS' h0;refine callsIn_of_wp func215 rfl trivial ?_ rfl;simp only[ntmps215,List.size_toArray,List.length_cons,List.length_nil,Nat.reduceAdd,Nat.reduceSub,Array.replicate_succ,Array.replicate_zero,List.push_toArray,List.append_toArray,List.nil_append,List.cons_append];gi_wp2_with fail
 ·have he:(t.toList == [46])=true:=by assumption
  have lK:t.data.toList = [46]:=by rw[<-dQ];simpa using he
  have hb:Np.back t.data.toList = []:=by simp[Np.back,lK]
  refine bodyPost_ret (results_none rfl _ _ _) rfl ?_;exact⟨⟨_,rfl⟩,.inl ⟨S,by rw[hb];exact h0,λk e=>.inl e⟩⟩
 ·have he:(t.toList == [46])=false:=by assumption
  have hne:¬ t.data.toList = [46]:=by rw[<-dQ];simpa using he
  have hb:Np.back t.data.toList=(Np.bg t.data.toList).reverse:=by simp[Np.back,hne]
  have HB:=jq hb;clear hb;gi_loopw [4] (λv wr=>Gb t J S W v wr) (λv _=>Lo v)
  case atStart=>exact⟨[],t,S,rfl,ht,by simpa using HB.out,h0,hS',bQ _,λ_ e=>.inl e⟩
  case round=>
   obtain⟨pre,r,S1,rfl,hr,gI,hj,ab,an,bE⟩:=hrel;have HP:=jq gI;clear gI;gi_wp2_with fail;refine⟨trivial,rfl,?_⟩;refine (callsIn_wide.2 (KR _ hr _ (by decide) (by decide) _)).mono ?_;rintro e w' ⟨q,hq,rfl,rfl⟩;rcases hq with ⟨rfl,ii⟩ | ⟨a,b,iv,ux,rfl⟩
   ·have bK:Np.bg r.data.toList = [r.data.toList]:=Np.zL ii;have hx:pre ++ [r.data.toList] <+: Np.back t.data.toList:=by rw[HP.out,bK];exact List.prefix_refl _
    obtain⟨fn,tmps,assign,body,hy,hR⟩:=hY pre r.data.toList S1 wr hx hj ab an;have mP:Sem.run prog (Instr.yield l #[.string r]) wr = .ok (.round l fn tmps assign body) wr:=hy;clear hy;have HX:=jq hx;clear hx;have HS:=jq bK;clear bK ii;gi_wp2_with fail;refine⟨rfl,hR.mono ?_⟩;rintro e W3 ⟨S3,aM,qq,nX,(⟨rfl,wE⟩ | ⟨rfl,wF⟩)⟩
    all_goals
     gi_wp2_with fail;refine bodyPost_ret (results_none rfl _ _ _) rfl ?_
    ·refine⟨⟨_,rfl⟩,.inl ⟨S3,?_,λk e=>?_⟩⟩
     ·rw[HP.out,HS.out];exact wE
     ·rcases qq k e with e | e
      ·exact bE k e
      ·right;omega
    ·refine⟨⟨_,rfl⟩,.inr ⟨_,S3,HX.out,wF,λk e=>?_⟩⟩;rcases qq k e with e | e
     ·exact bE k e
     ·right;omega
   ·have li:a.length+1+b.length=r.size:=by rw[<-bn,iv];simp;omega
    have bK:Np.bg r.data.toList=Np.bg a ++ [b]:=by rw[iv];exact (Np.C6 a b).trans (by rw[Np.zL ux])
    have hx:pre ++ [b] <+: Np.back t.data.toList:=by rw[HP.out,bK];simp
    have uL:(r.extract (a.length+1) r.size).data.toList=b:=by rw[Ea,iv];simp
    have rE:(r.extract 0 a.length).data.toList=a:=by rw[Eb,iv];simp
    have CE:(r.extract 0 a.length).size=a.length:=by rw[<-bn,rE]
    obtain⟨fn,tmps,assign,body,hy,hR⟩:=hY pre b S1 wr hx hj ab an;have mP:Sem.run prog (Instr.yield l #[.string (r.extract (a.length+1) r.size)]) wr = .ok (.round l fn tmps assign body) wr:=by
     have:aA b = .string (r.extract (a.length+1) r.size):=by show Value.string _=_;congr 1;exact j9 (by rw[uL])
     simp only[this] at hy;exact hy
    clear hy;have HX:=jq hx;have HS:=jq bK;have HA:=jq rE;have vS:=jq CE;clear hx bK uL rE CE iv ux;have je:a.length<=140737488355328:=by omega
    have O6:a.length+1<=r.size:=by omega
    have H2:=jq li;clear li;gi_wp2_with fail;refine⟨rfl,hR.mono ?_⟩;rintro e W3 ⟨S3,aM,qq,nX,(⟨rfl,wE⟩ | ⟨rfl,wF⟩)⟩
    ·have ZL:=aM.size;gi_wp2_with fail;go_roundw
     case rel=>
      refine⟨pre ++ [b],r.extract 0 a.length,S3,rfl,by rw[vS.out];exact je,?_,wE,nX,by omega,λk e=>?_⟩
      ·rw[HP.out,HS.out,HA.out];simp
      ·rcases qq k e with e | e
       ·exact bE k e
       ·right;omega
     case measure=>show (r.extract 0 a.length).size<r.size;rw[vS.out];omega
    ·gi_wp2_with fail;refine bodyPost_ret (results_none rfl _ _ _) rfl ?_;refine⟨⟨_,rfl⟩,.inr ⟨_,S3,HX.out,wF,λk e=>?_⟩⟩;rcases qq k e with e | e
     ·exact bE k e
     ·right;omega
end D
section
open Go.RowKit
structure ItStep(B:Nat)(S:Nat->Prop)(W W':World):Prop where
 os:W'.os=W.os
 tape:W'.tape=W.tape
 output:W'.output=W.output
 size:W.heap.size<=W'.heap.size
 keep:∀ k,k<W.heap.size->(k<B\/S k)->W'.heap[k]?=W.heap[k]?
structure RdStep(S:Nat->Prop)(W W':World):Prop where
 os:W'.os=W.os
 tape:W'.tape=W.tape
 output:W'.output=W.output
 size:W.heap.size<=W'.heap.size
 keep:∀ k,k<W.heap.size->¬ S k->W'.heap[k]?=W.heap[k]?
theorem ItStep.refl(B:Nat)(S:Nat->Prop)(W:World):ItStep B S W W:=⟨rfl,rfl,rfl,bQ _,λ_ _ _=>rfl⟩
theorem RdStep.refl(S:Nat->Prop)(W:World):RdStep S W W:=⟨rfl,rfl,rfl,bQ _,λ_ _ _=>rfl⟩
theorem ItStep.trans{B:Nat}{S:Nat->Prop}{A W C:World}(h:ItStep B S A W)(k:ItStep B S W C):ItStep B S A C:=
 ⟨k.os.trans h.os,k.tape.trans h.tape,k.output.trans h.output,yQ h.size k.size,λi hi hs=>(k.keep i (lQ hi h.size) hs).trans (h.keep i hi hs)⟩
theorem RdStep.trans{S S':Nat->Prop}{A W C:World}(h:RdStep S A W)(k:RdStep S' W C)(hS:∀ i,S' i->S i\/A.heap.size<=i):RdStep S A C:=
 ⟨k.os.trans h.os,k.tape.trans h.tape,k.output.trans h.output,yQ h.size k.size,λi hi hs=>
  (k.keep i (lQ hi h.size) (λe=>by rcases hS i e with e | e;exact hs e;omega)).trans (h.keep i hi hs)⟩
theorem RdStep.mono{S S':Nat->Prop}{A W:World}(h:RdStep S A W)(hS:∀ i,S i->S' i):RdStep S' A W:=
 ⟨h.os,h.tape,h.output,h.size,λi hi hs=>h.keep i hi (λe=>hs (hS i e))⟩
theorem ItStep.of_below{B:Nat}{S:Nat->Prop}{A W:World}(h:Below A.heap.size A W):ItStep B S A W:=
 ⟨h.os,h.tape,h.output,h.size,λk hk _=>h.block k hk⟩
theorem RdStep.of_below{S:Nat->Prop}{A W:World}(h:Below A.heap.size A W):RdStep S A W:=
 ⟨h.os,h.tape,h.output,h.size,λk hk _=>h.block k hk⟩
theorem RdStep.below{S:Nat->Prop}{A W:World}{n:Nat}(h:RdStep S A W)(hn:n<=A.heap.size)(hS:∀ k,S k->n<=k):Below n A W:=
 ⟨h.os,h.tape,h.output,h.size,λk hk=>h.keep k (by omega) (λe=>by have:=hS k e;omega)⟩
theorem RdStep.setCell{S:Nat->Prop}{A W:World}(h:RdStep S A W){p:Addr}(hp:S p.block\/A.heap.size<=p.block)(u:Value):RdStep S A (W.setCell p u):=
 ⟨h.os,h.tape,h.output,by simpa [World.setCell] using h.size,λk hk hs=>(wQ _ _ _ _ (by rintro rfl;rcases hp with hp | hp;exact hs hp;omega)).trans (h.keep k hk hs)⟩
theorem RdStep.alloc{S:Nat->Prop}{A W:World}(h:RdStep S A W)(o:Obj):RdStep S A (W.alloc o):=
 ⟨h.os,h.tape,h.output,yQ h.size (by simp),λk hk hs=>(Below.heap_alloc _ _ _ (lQ hk h.size)).trans (h.keep k hk hs)⟩
theorem RdStep.drew{S:Nat->Prop}{A W:World}(h:RdStep S A W):RdStep S A W.drew:=⟨h.os,h.tape,h.output,h.size,h.keep⟩
theorem RdStep.grown{S:Nat->Prop}{A W C:World}{row:Option Nat}(h:RdStep S A W)(hg:W.grownBy C row)(hr:∀ k,row=some k->S k\/A.heap.size<=k):RdStep S A C:=
 ⟨hg.os.trans h.os,hg.tape.trans h.tape,hg.output.trans h.output,yQ h.size hg.size,λk hk hs=>
  (hg.block k (lQ hk h.size) (λe=>by rcases hr k e.symm with e' | e';exact hs e';omega)).trans (h.keep k hk hs)⟩
theorem RdStep.then_below{S:Nat->Prop}{A W C:World}(h:RdStep S A W)(k:Below W.heap.size W C):RdStep S A C:=
 ⟨k.os.trans h.os,k.tape.trans h.tape,k.output.trans h.output,yQ h.size k.size,λi hi hs=>(k.block i (lQ hi h.size)).trans (h.keep i hi hs)⟩
def gp{β:Type}(B:Nat)(J:β->(Nat->Prop)->World->Prop):Prop:=∀ s S W W',J s S W->ItStep B S W W'->J s S W'
def DU{α:Type}(J Jx:List α->(Nat->Prop)->World->Prop)(pre:List α)(x:α)(S:Nat->Prop)(W:World)(e:Ending)(W':World):Prop:=
 ∃ S':Nat->Prop,RdStep S W W'/\(∀ k,S' k->S k\/W.heap.size<=k)/\(∀ k,S' k->k<W'.heap.size)/\
   ((e = .returned (.bool true)/\J (pre ++ [x]) S' W')\/(e = .returned (.bool false)/\Jx (pre ++ [x]) S' W'))
def vX{α:Type}(P:Program)(gf:FuncId)(mk:Value->Array Value)(encs:α->Array Value)(xs:List α)(n₀:Nat)(w:World):Prop:=
 ∀ (l:Nat) (J Jx:List α->(Nat->Prop)->World->Prop) (S:Nat->Prop) (W:World),Below n₀ w W->
   gp W.heap.size J->gp W.heap.size Jx->
   (∀ pre x S1 W1,pre ++ [x] <+: xs->J pre S1 W1->(∀ k,S1 k->k<W1.heap.size)->W.heap.size<=W1.heap.size->
     YieldAt Fence.wide 0 P l (encs x) W1 (DU J Jx pre x S1 W1))->
   (∀ k,S k->n₀<=k)->(∀ k,S k->k<W.heap.size)->J [] S W->
   CallsIn Fence.wide 0 P gf (mk (.func (.yield l) #[] #[])) W λe W'=>(∃ v,e = .returned v)/\
    ((∃ S',J xs S' W'/\(∀ k,S' k->S k\/W.heap.size<=k))\/(∃ pre S',pre <+: xs/\Jx pre S' W'/\(∀ k,S' k->S k\/W.heap.size<=k)))
def nG{α:Type}(I:List α->(Nat->Prop)->World->Prop)(Ix:Code->List α->(Nat->Prop)->World->Prop)(xs:List α)(S:Nat->Prop)(W:World):Exit->Act->World->Prop
 | .normal,_,W'=>∃ S',RdStep S W W'/\(∀ k,S' k->S k\/W.heap.size<=k)/\(∀ k,S' k->k<W'.heap.size)/\I xs S' W'
 | .ret,_,W'=>∃ S',RdStep S W W'/\(∀ k,S' k->S k\/W.heap.size<=k)/\(∀ k,S' k->k<W'.heap.size)/\Ix .ret xs S' W'
 | .exit id,_,W'=>∃ S',RdStep S W W'/\(∀ k,S' k->S k\/W.heap.size<=k)/\(∀ k,S' k->k<W'.heap.size)/\Ix (.exit id) xs S' W'
 | _,_,_=>False
theorem jW{B:Nat}{S:Nat->Prop}{W:World}{l:Nat}(o:Obj)(hl:B<=l)(hS:¬ S l):ItStep B S W (W.putObj l o):=
 ⟨rfl,rfl,rfl,by simp,λk _ hk=>zQ (by rintro rfl;rcases hk with hk | hk;omega;exact hS hk)⟩
theorem uP{B:Nat}{S:Nat->Prop}{W:World}(o:Obj):ItStep B S W (W.alloc o):=
 ⟨rfl,rfl,rfl,by simp,λk hk _=>Below.heap_alloc _ _ _ hk⟩
theorem ItStep.weaken{B B':Nat}{S S':Nat->Prop}{W W':World}(h:ItStep B S W W')(hB:B'<=B)(hS:∀ k,S' k->S k):ItStep B' S' W W':=
 ⟨h.os,h.tape,h.output,h.size,λk hk hs=>h.keep k hk (hs.imp (λe=>by omega) (hS k))⟩
theorem LM{α:Type}{P:Program}{g:Operand}{ps:Array Tmp}{assign body:Code}{Q:Exit->Act->World->Prop}{a:Act}{w:World}
 {gf:FuncId} {first captured:Array Value} (hg:a.eval g = .func (.func gf) first captured) (eg:∀ args w,(callFunc gf args).run P w = .ok (.enter gf args) w)
 {mk:Value->Array Value} {encs:α->Array Value} {xs:List α} {n₀:Nat} {w0:World} (gY:∀ y,mk y=first ++ #[y]++captured)
 (hit:vX P gf mk encs xs n₀ w0) (cP:Below n₀ w0 w) (lM:n₀<=w.heap.size) (fT:∀ x,(encs x).size=ps.size)
 (I:List α->(Nat->Prop)->World->Prop) (Ix:Code->List α->(Nat->Prop)->World->Prop) (A:List α->α->(Nat->Prop)->Act->World->Prop)
 (hI:gp w.heap.size I) (jp:∀ c,gp w.heap.size (Ix c)) (hA:∀ pre x S a' W W',A pre x S a' W->ItStep w.heap.size S W W'->A pre x S a' W')
 (S0:Nat->Prop) (qa:∀ k,S0 k->n₀<=k) (kY:∀ k,S0 k->k<w.heap.size) (h0:I [] S0 w)
 (BQ:∀ (l:Nat) (pre:List α) (x:α) (S:Nat->Prop) (W:World),pre ++ [x] <+: xs->I pre S W->(∀ k,S k->k<W.heap.size)->
   assign.wpIn (Fence.wide.inRound l) 0 P (Exit.then (λa₁ W₁=>∃ S',RdStep S W W₁/\(∀ k,S' k->S k\/W.heap.size<=k)/\(∀ k,S' k->k<W₁.heap.size)/\A pre x S' a₁ W₁) (λ_ _ _=>False))
    { tmps:=(ps.zip (encs x)).foldl (λt (p,v)=>t.setIfInBounds p v) a.tmps,defers:=[] } W)
 (BW:∀ (l:Nat) (pre:List α) (x:α) (S:Nat->Prop) (a₁:Act) (W:World),pre ++ [x] <+: xs->A pre x S a₁ W->(∀ k,S k->k<W.heap.size)->
   body.wpIn (Fence.wide.inRound l) 0 P (nG I Ix (pre ++ [x]) S W) a₁ W)
 (mc:∀ (D:Nat) (S:Nat->Prop) (W:World),w.heap.size<=D->¬ S D->(∀ k,S k->S0 k\/w.heap.size<=k)->I xs S W->W.heap[D]?=some (.deferred (some []))->
   Q .normal { a with defers:={ target:=.collected D,args:=#[] } :: a.defers } W)
 (mj:∀ (D:Nat) (c:Code) (pre:List α) (S:Nat->Prop) (W:World),w.heap.size<=D->¬ S D->(∀ k,S k->S0 k\/w.heap.size<=k)->pre <+: xs->Ix c pre S W->W.heap[D]?=some (.deferred (some []))->
   c.wpIn Fence.wide 0 P Q { a with defers:={ target:=.collected D,args:=#[] } :: a.defers } W) :
 (Code.rangeFunc g ps assign body).wpIn Fence.wide 0 P Q a w:=by
 refine wpIn_rangeFunc ?_;intro fn gj;show ∃ (l:Nat) (mark:List Deferred) (w₁:World) (d:Deferred) (w₁':World) (f:FuncId) (args:Array Value) (w₂:World),(Instr.enterLoop fn a.tmps ps assign body none).run P w = .ok (l,mark) w₁/\_;obtain⟨rec,fU⟩:∃ rec:LoopState->Option Code->Loop,rec=λst pe=>{ state:=st,pending:=pe,fn,tmps:=a.tmps,params:=ps,assign,body,defers:=w.heap.size }:=⟨_,rfl⟩;obtain⟨W1,am⟩:=acJ ((w.alloc (.deferred (some []))).alloc (.loop (rec .ready none)));have an:W1.heap.size=w.heap.size+2:=by rw[<-am];simp
 have iM:W1.heap[w.heap.size+1]?=some (.loop (rec .ready none)):=by
  rw[<-am];have:=World.alloc_heap_new (w.alloc (.deferred (some []))) (.loop (rec .ready none));rwa [World.size_alloc] at this
 have BG:W1.heap[w.heap.size]?=some (.deferred (some [])):=by
  rw[<-am];exact (Below.heap_alloc _ _ _ (by simp)).trans (World.alloc_heap_new w _)
 have mC:I [] S0 W1:=by rw[<-am];exact hI _ _ _ _ (hI _ _ _ _ h0 (uP _)) (uP _)
 have ay:Below n₀ w0 W1:=by
  rw[<-am];exact cP.trans ((((vQ _ w).alloc (bQ _) _).alloc (by simp) _).mono lM)
 refine⟨w.heap.size+1,[{ target:=.collected w.heap.size,args:=#[] }],W1,{ target:=.fn (.func gf) captured,args:=first ++ #[.func (.yield (w.heap.size+1)) #[] #[]] },W1,gf,
  first ++ #[.func (.yield (w.heap.size+1)) #[] #[]]++captured,W1,?_,?_,?_,?_,λh=>by simp[Fence.wide] at h,?_⟩
 ·rw[<-am,fU];exact run_enterLoop_outer _ _ _ _ _
 ·simp only[resolve,hg];simp[go_sem]
 ·intro f' _;trivial
 ·simp[invoke,go_sem,eg]
 ·rw[<-gY];have key:=hit (w.heap.size+1)
   (λpre Si W=>∃ S:Nat->Prop,(∀ k,Si k↔S k\/k=w.heap.size+1)/\(¬ S w.heap.size)/\(¬ S (w.heap.size+1))/\(∀ k,S k->S0 k\/w.heap.size<=k)/\I pre S W/\W.heap[w.heap.size+1]?=some (.loop (rec .ready none))/\W.heap[w.heap.size]?=some (.deferred (some [])))
   (λpre Si W=>∃ (S:Nat->Prop) (c:Code),(∀ k,Si k↔S k\/k=w.heap.size+1)/\(¬ S w.heap.size)/\(¬ S (w.heap.size+1))/\(∀ k,S k->S0 k\/w.heap.size<=k)/\Ix c pre S W/\W.heap[w.heap.size+1]?=some (.loop (rec .done (some c)))/\W.heap[w.heap.size]?=some (.deferred (some [])))
   (λk=>S0 k\/k=w.heap.size+1) W1 ay ?_ ?_ ?_ ?_ ?_ ?_
  ·refine key.mono ?_;rintro e W2 ⟨⟨v,rfl⟩,(⟨S',⟨S,dH,hD,hL,bE,hi,hl,hk⟩,_⟩ | ⟨pre,S',gI,⟨S,c,dH,hD,hL,bE,hi,hl,hk⟩,_⟩)⟩
   ·refine⟨none,_,by have:=run_endLoop (P:=P) hl (by rw[fU];simp);rw[fU] at this;exact this,?_⟩;exact mc _ S _ (bQ _) hD bE (hI _ _ _ _ hi (jW _ (by omega) hL)) ((zQ (by omega)).trans hk)
   ·refine⟨some c,_,by have:=run_endLoop (P:=P) hl (by rw[fU];simp);rw[fU] at this;exact this,?_⟩;exact mj _ c pre S _ (bQ _) hD bE gI ((jp c) _ _ _ _ hi (jW _ (by omega) hL)) ((zQ (by omega)).trans hk)
  ·rintro pre Si A1 B1 ⟨S,dH,hD,hL,bE,hi,hl,hk⟩ aB;have ab:w.heap.size+1<A1.heap.size:=(eQ.1 hl).1;exact⟨S,dH,hD,hL,bE,hI _ _ _ _ hi (aB.weaken (by omega) (λk e=>(dH k).2 (.inl e))),(aB.keep _ ab (.inl (by omega))).trans hl,(aB.keep _ (by omega) (.inl (by omega))).trans hk⟩
  ·rintro pre Si A1 B1 ⟨S,c,dH,hD,hL,bE,hi,hl,hk⟩ aB;have ab:w.heap.size+1<A1.heap.size:=(eQ.1 hl).1;exact⟨S,c,dH,hD,hL,bE,jp c _ _ _ _ hi (aB.weaken (by omega) (λk e=>(dH k).2 (.inl e))),(aB.keep _ ab (.inl (by omega))).trans hl,(aB.keep _ (by omega) (.inl (by omega))).trans hk⟩
  ·
   rintro pre x Si W ba ⟨S,dH,hD,hL,bE,hi,hl,hk⟩ fR Jl;have ab:w.heap.size+1<W.heap.size:=(eQ.1 hl).1;have BN:∀ k,S k->k<W.heap.size:=λk e=>fR k ((dH k).2 (.inl e));have hy:=run_yield (P:=P) (args:=encs x) hl (by rw[fU];exact fT x);rw[fU] at hy;refine⟨fn,_,assign,body,hy,roundIn_of_wpIn gj (wpIn_mono (BQ _ pre x S W ba hi BN) ?_)⟩;intro e a1 Wa hq
   cases e with
   | normal=>
    obtain⟨S1,gJ,bK,CD,BB⟩:=hq;have uu:¬ S1 w.heap.size:=λe=>by rcases bK _ e with e | e;exact hD e;omega
    have qk:¬ S1 (w.heap.size+1):=λe=>by rcases bK _ e with e | e;exact hL e;omega
    have jO:Wa.heap[w.heap.size+1]?=some (.loop (rec .ready none)):=(gJ.keep _ ab hL).trans hl;have Ci:Wa.heap[w.heap.size]?=some (.deferred (some [])):=(gJ.keep _ (by omega) hD).trans hk;have ur:w.heap.size+1<Wa.heap.size:=(eQ.1 jO).1;refine⟨_,run_beginRound jO (by rw[fU]),?_⟩;have hb:=BW (w.heap.size+1) pre x S1 a1 (Wa.putObj (w.heap.size+1) (.loop { rec .ready none with state:=.busy })) ba (hA _ _ _ _ _ _ BB (jW _ (by omega) qk)) (λk e=>by simpa using CD k e);refine wpIn_mono hb ?_;have fin:∀ (jump:Option Code) (W3:World) (S3:Nat->Prop),RdStep S1 (Wa.putObj (w.heap.size+1) (.loop { rec .ready none with state:=.busy })) W3->(∀ k,S3 k->S1 k\/(Wa.putObj (w.heap.size+1) (.loop { rec .ready none with state:=.busy })).heap.size<=k)->(∀ k,S3 k->k<W3.heap.size)->
     (Instr.endRound (w.heap.size+1) jump).run P W3 = .ok (.bool jump.isNone) (W3.putObj (w.heap.size+1) (.loop (rec (if jump.isNone then .ready else .done) jump)))/\
     (W3.putObj (w.heap.size+1) (.loop (rec (if jump.isNone then .ready else .done) jump))).heap[w.heap.size+1]?=some (.loop (rec (if jump.isNone then .ready else .done) jump))/\
     (W3.putObj (w.heap.size+1) (.loop (rec (if jump.isNone then .ready else .done) jump))).heap[w.heap.size]?=some (.deferred (some []))/\
     ¬ S3 w.heap.size/\¬ S3 (w.heap.size+1)/\(∀ k,S3 k->S k\/W.heap.size<=k)/\
     RdStep Si W (W3.putObj (w.heap.size+1) (.loop (rec (if jump.isNone then .ready else .done) jump))):=λjump W3 S3 dz dX dC=>by
     have eU:(Wa.putObj (w.heap.size+1) (.loop { rec .ready none with state:=.busy })).heap[w.heap.size+1]?=some (.loop { rec .ready none with state:=.busy }):=World.putObj_heap_same ur;have jN:(Wa.putObj (w.heap.size+1) (.loop { rec .ready none with state:=.busy })).heap[w.heap.size]?=some (.deferred (some [])):=(zQ (by omega)).trans Ci;have nW:=(dz.keep _ (by simpa using ur) qk).trans eU;have mH:=(dz.keep _ (by simp;omega) uu).trans jN;have nX:=(eQ.1 nW).1
     have:=run_endRound (P:=P) jump nW
     rw[fU] at this |-;have lN:=dz.size;have uH:=gJ.size;simp only[World.putObj_size] at lN dX;refine⟨this,World.putObj_heap_same nX,(zQ (by omega)).trans mH,λe=>?_,λe=>?_,λk e=>?_,?_⟩
     ·rcases dX _ e with e | e;exact uu e;omega
     ·rcases dX _ e with e | e;exact qk e;omega
     ·rcases dX _ e with e | e
      ·exact bK _ e
      ·right;omega
     ·refine⟨dz.os.trans gJ.os,dz.tape.trans gJ.tape,dz.output.trans gJ.output,by simp;omega,λk hk' uv=>?_⟩;have mJ:k≠w.heap.size+1:=λe=>uv ((dH k).2 (.inr e));have uw:¬ S k:=λe=>uv ((dH k).2 (.inl e));have Cq:¬ S1 k:=λe=>by rcases bK _ e with e | e;exact uw e;omega
      exact (zQ mJ).trans ((dz.keep k (by simp;omega) Cq).trans ((zQ mJ).trans (gJ.keep k hk' uw)))
    have fin2:∀ (S3:Nat->Prop) (W3:World) (o:Obj),(∀ k,S3 k->k<W3.heap.size)->W.heap.size<=W3.heap.size->(∀ k,S3 k->S k\/W.heap.size<=k)->
     (∀ k,(S3 k\/k=w.heap.size+1)->Si k\/W.heap.size<=k)/\(∀ k,(S3 k\/k=w.heap.size+1)->k<(W3.putObj (w.heap.size+1) o).heap.size):=λS3 W3 o h1 h2 h3=>
     ⟨λk e=>by rcases e with e | e;exact (h3 k e).imp (λe'=>(dH k).2 (.inl e')) id;exact .inl ((dH k).2 (.inr e)),λk e=>by
      simp only[World.putObj_size];rcases e with e | e
      ·exact h1 k e
      ·omega⟩
    have sub3:∀ (S3:Nat->Prop),(∀ k,S3 k->S k\/W.heap.size<=k)->∀ k,S3 k->S0 k\/w.heap.size<=k:=λS3 h k e=>by
     rcases h k e with e | e
     ·exact bE k e
     ·right;omega
    rintro e a3 W3 hp
    cases e with
    | normal=>
     obtain⟨S3,dz,dX,dC,lc⟩:=hp;obtain⟨hr,ld,ky,jR,gH,eI,aM⟩:=fin none W3 S3 dz dX dC;have an:W.heap.size<=W3.heap.size:=by simpa using aM.size
     refine⟨_,_,hr,λk=>S3 k\/k=w.heap.size+1,aM,(fin2 S3 W3 (.deferred none) dC an eI).1,(fin2 S3 W3 _ dC an eI).2,.inl ⟨rfl,S3,λ_=>Iff.rfl,jR,gH,sub3 S3 eI,hI _ _ _ _ lc (jW _ (by omega) gH),ld,ky⟩⟩
    | ret=>
     obtain⟨S3,dz,dX,dC,lc⟩:=hp;obtain⟨hr,ld,ky,jR,gH,eI,aM⟩:=fin (some .ret) W3 S3 dz dX dC;have an:W.heap.size<=W3.heap.size:=by simpa using aM.size
     refine⟨_,_,hr,λk=>S3 k\/k=w.heap.size+1,aM,(fin2 S3 W3 (.deferred none) dC an eI).1,(fin2 S3 W3 _ dC an eI).2,.inr ⟨rfl,S3,.ret,λ_=>Iff.rfl,jR,gH,sub3 S3 eI,jp _ _ _ _ _ lc (jW _ (by omega) gH),ld,ky⟩⟩
    | exit id=>
     obtain⟨S3,dz,dX,dC,lc⟩:=hp;obtain⟨hr,ld,ky,jR,gH,eI,aM⟩:=fin (some (.exit id)) W3 S3 dz dX dC;have an:W.heap.size<=W3.heap.size:=by simpa using aM.size
     refine⟨_,_,hr,λk=>S3 k\/k=w.heap.size+1,aM,(fin2 S3 W3 (.deferred none) dC an eI).1,(fin2 S3 W3 _ dC an eI).2,.inr ⟨rfl,S3,.exit id,λ_=>Iff.rfl,jR,gH,sub3 S3 eI,jp _ _ _ _ _ lc (jW _ (by omega) gH),ld,ky⟩⟩
    | goto t=>exact hp.elim
    | panic ch=>exact hp.elim
    | outgrown=>exact hp.elim
   | ret=>exact hq.elim
   | exit id=>exact hq.elim
   | goto t=>exact hq.elim
   | panic ch=>exact hq.elim
   | outgrown=>exact hq.elim
  ·rintro k (e | rfl)
   ·exact qa k e
   ·omega
  ·rintro k (e | rfl)
   ·have:=kY k e;omega
   ·omega
  ·exact⟨S0,λ_=>Iff.rfl,λe=>by have:=kY _ e;omega,λe=>by have:=kY _ e;omega,λ_ e=>.inl e,mC,iM,BG⟩
theorem kU{B:Nat}{S:Nat->Prop}{W W':World}{b:Nat}{t:TypeId}{v:Value}(h:Boxed W b t v)(hs:ItStep B S W W')(hb:S b):Boxed W' b t v:=(hs.keep b h.lt (.inr hb)).trans h
theorem wh{n B:Nat}{S:Nat->Prop}{w W W':World}(h:Below n w W)(hs:ItStep B S W W')(hB:n<=B)(hn:n<=w.heap.size):Below n w W':=
 ⟨hs.os.trans h.os,hs.tape.trans h.tape,hs.output.trans h.output,yQ h.size hs.size,λk hk=>(hs.keep k (by have:=h.size;omega) (.inl (by omega))).trans (h.block k hk)⟩
theorem DZ{S:Nat->Prop}{W W':World}{b:Nat}{t:TypeId}{v:Value}(h:Boxed W b t v)(hs:RdStep S W W')(hb:¬ S b):Boxed W' b t v:=(hs.keep b h.lt hb).trans h
theorem cU{n:Nat}{W W':World}{b:Nat}{t:TypeId}{v:Value}(h:Boxed W b t v)(hs:Below n W W')(hb:b<n):Boxed W' b t v:=(hs.block b hb).trans h
theorem fO{W:World}{b:Nat}{t:TypeId}{v:Value}(h:Boxed W b t v){p:Addr}(hp:b≠p.block)(u:Value):Boxed (W.setCell p u) b t v:=(wQ W p u b hp).trans h
theorem kV{P:Program}{fn:Func}{R:Ending->World->Prop}{tmps:Array Value}{w:World}{v:Value}(s5:(results fn tmps).run P w = .ok v w)(hR:R (.returned v) w) :
 bodyPostM Fence.wide 0 P fn R .ret { tmps:=tmps,defers:=[] } w:=⟨_,s5,hR⟩
theorem nJ{P:Program}{fn:Func}{R:Ending->World->Prop}{tmps:Array Value}{W:World}{D:Nat}{v:Value}(hK:W.heap[D]?=some (.deferred (some [])))
 (s5:(results fn tmps).run P (W.putObj D (.deferred none)) = .ok v (W.putObj D (.deferred none))) (hR:R (.returned v) (W.putObj D (.deferred none))) :
 bodyPostM Fence.wide 0 P fn R .ret { tmps:=tmps,defers:=[{ target:=.collected D,args:=#[] }] } W:=
 ⟨by simp,.inl ⟨_,_,rfl,run_takeDeferred hK,_,s5,hR⟩⟩
theorem mA{n D:Nat}{w W:World}(h:Below n w W)(hD:n<=D)(o:Obj):Below n w (W.putObj D o):=
 ⟨h.os,h.tape,h.output,by simpa using h.size,λk hk=>(zQ (by omega)).trans (h.block k hk)⟩
theorem wk{W:World}{b D:Nat}{t:TypeId}{v:Value}(h:Boxed W b t v)(hD:b≠D)(o:Obj):Boxed (W.putObj D o) b t v:=(zQ hD).trans h
theorem F6{α:Type}{P:Program}{g:Operand}{ps:Array Tmp}{assign body:Code}{Q:Exit->Act->World->Prop}{a:Act}{w:World}
 {gf:FuncId} {first captured:Array Value} (hg:a.eval g = .func (.func gf) first captured) (eg:∀ args w,(callFunc gf args).run P w = .ok (.enter gf args) w)
 {mk:Value->Array Value} {encs:α->Array Value} {xs:List α} {n₀:Nat} {w0:World} (gY:∀ y,mk y=first ++ #[y]++captured)
 (hit:vX P gf mk encs xs n₀ w0) (cP:Below n₀ w0 w) (lM:n₀<=w.heap.size) (fT:∀ x,(encs x).size=ps.size)
 (I:List α->(Nat->Prop)->World->Prop) (Ix:Code->List α->(Nat->Prop)->World->Prop)
 (hI:gp w.heap.size I) (jp:∀ c,gp w.heap.size (Ix c))
 (S0:Nat->Prop) (qa:∀ k,S0 k->n₀<=k) (kY:∀ k,S0 k->k<w.heap.size) (h0:I [] S0 w)
 (CC:∀ (l0:Nat) (pre:List α) (x:α) (S:Nat->Prop) (W:World),pre ++ [x] <+: xs->I pre S W->(∀ k,S k->k<W.heap.size)->
   assign.wpIn (Fence.wide.inRound l0) 0 P (Exit.then (λa₁ W₁=>∃ S',RdStep S W W₁/\(∀ k,S' k->S k\/W.heap.size<=k)/\(∀ k,S' k->k<W₁.heap.size)/\
    ∀ l W₂,ItStep w.heap.size S' W₁ W₂->body.wpIn (Fence.wide.inRound l) 0 P (nG I Ix (pre ++ [x]) S' W₂) a₁ W₂) (λ_ _ _=>False))
    { tmps:=(ps.zip (encs x)).foldl (λt (p,v)=>t.setIfInBounds p v) a.tmps,defers:=[] } W)
 (mc:∀ (D:Nat) (S:Nat->Prop) (W:World),w.heap.size<=D->¬ S D->(∀ k,S k->S0 k\/w.heap.size<=k)->I xs S W->W.heap[D]?=some (.deferred (some []))->
   Q .normal { a with defers:={ target:=.collected D,args:=#[] } :: a.defers } W)
 (mj:∀ (D:Nat) (c:Code) (pre:List α) (S:Nat->Prop) (W:World),w.heap.size<=D->¬ S D->(∀ k,S k->S0 k\/w.heap.size<=k)->pre <+: xs->Ix c pre S W->W.heap[D]?=some (.deferred (some []))->
   c.wpIn Fence.wide 0 P Q { a with defers:={ target:=.collected D,args:=#[] } :: a.defers } W) :
 (Code.rangeFunc g ps assign body).wpIn Fence.wide 0 P Q a w:=
 LM hg eg gY hit cP lM fT I Ix (λpre x S a₁ W=>∀ l W₂,ItStep w.heap.size S W W₂->body.wpIn (Fence.wide.inRound l) 0 P (nG I Ix (pre ++ [x]) S W₂) a₁ W₂)
  hI jp (λ_ _ _ _ _ _ h hs l W₂ h2=>h l W₂ (hs.trans h2)) S0 qa kY h0 CC (λl _ _ _ _ W _ h _=>h l W (ItStep.refl _ _ _)) mc mj
theorem a0J{n:Nat}{W W':World}{b:Nat}{t:TypeId}{v:Value}(h:Boxed W b t v)(hs:Below n W W')(hb:b<n:=by omega):Boxed W' b t v:=cU h hs hb
end
section
open Go.RowKit Go.Shelf
attribute [local go_sem] Oper.semAt_some
abbrev aA(l:List UInt8):Value:=.string ⟨l.toArray⟩
def Lo:Value->Nat
 | .string s=>s.size
 | _=>0
def Gb(t:ByteArray)(J:List (List UInt8)->(Nat->Prop)->World->Prop)(S:Nat->Prop)(W:World)(v:Value)(wr:World):Prop:=
 ∃ (pre:List (List UInt8)) (r:ByteArray) (S1:Nat->Prop),v = .string r/\r.size<=140737488355328/\Np.back t.data.toList=pre++(Np.bg r.data.toList).reverse/\
   J pre S1 wr/\(∀ k,S1 k->k<wr.heap.size)/\W.heap.size<=wr.heap.size/\(∀ k,S1 k->S k\/W.heap.size<=k)
theorem DY(t:ByteArray)(ht:t.size<=140737488355328)(n₀:Nat)(w:World) :
 vX prog 215 (λy=>#[.string t,y]) (λx:List UInt8=>#[aA x]) (Np.back t.data.toList) n₀ w:=by
 intro l J Jx S W hW hJ Es hY hS hS' h0;refine callsIn_of_wp func215 rfl trivial ?_ rfl;simp only[ntmps215,List.size_toArray,List.length_cons,List.length_nil,Nat.reduceAdd,Nat.reduceSub,Array.replicate_succ,Array.replicate_zero,List.push_toArray,List.append_toArray,List.nil_append,List.cons_append];gi_wp2_with fail
 ·have he:(t.toList == [46])=true:=by assumption
  have lK:t.data.toList = [46]:=by rw[<-dQ];simpa using he
  have hb:Np.back t.data.toList = []:=by simp[Np.back,lK]
  refine bodyPost_ret (results_none rfl _ _ _) rfl ?_;exact⟨⟨_,rfl⟩,.inl ⟨S,by rw[hb];exact h0,λk e=>.inl e⟩⟩
 ·have he:(t.toList == [46])=false:=by assumption
  have hne:¬ t.data.toList = [46]:=by rw[<-dQ];simpa using he
  have hb:Np.back t.data.toList=(Np.bg t.data.toList).reverse:=by simp[Np.back,hne]
  have HB:=jq hb;clear hb;gi_loopw [4] (λv wr=>Gb t J S W v wr) (λv _=>Lo v)
  case atStart=>exact⟨[],t,S,rfl,ht,by simpa using HB.out,h0,hS',bQ _,λ_ e=>.inl e⟩
  case round=>
   obtain⟨pre,r,S1,rfl,hr,gI,hj,ab,an,bE⟩:=hrel;have HP:=jq gI;clear gI;gi_wp2_with fail;refine⟨trivial,rfl,?_⟩;refine (callsIn_wide.2 (KR _ hr _ (by decide) (by decide) _)).mono ?_;rintro e w' ⟨q,hq,rfl,rfl⟩;rcases hq with ⟨rfl,ii⟩ | ⟨a,b,iv,ux,rfl⟩
   ·have bK:Np.bg r.data.toList = [r.data.toList]:=Np.zL ii;have hx:pre ++ [r.data.toList] <+: Np.back t.data.toList:=by rw[HP.out,bK];exact List.prefix_refl _
    obtain⟨fn,tmps,assign,body,hy,hR⟩:=hY pre r.data.toList S1 wr hx hj ab an;have mP:Sem.run prog (Instr.yield l #[.string r]) wr = .ok (.round l fn tmps assign body) wr:=hy;clear hy;have HX:=jq hx;clear hx;have HS:=jq bK;clear bK ii;gi_wp2_with fail;refine⟨rfl,hR.mono ?_⟩;rintro e W3 ⟨S3,aM,qq,nX,(⟨rfl,wE⟩ | ⟨rfl,wF⟩)⟩
    all_goals
     gi_wp2_with fail;refine bodyPost_ret (results_none rfl _ _ _) rfl ?_
    ·refine⟨⟨_,rfl⟩,.inl ⟨S3,?_,λk e=>?_⟩⟩
     ·rw[HP.out,HS.out];exact wE
     ·rcases qq k e with e | e
      ·exact bE k e
      ·right;omega
    ·refine⟨⟨_,rfl⟩,.inr ⟨_,S3,HX.out,wF,λk e=>?_⟩⟩;rcases qq k e with e | e
     ·exact bE k e
     ·right;omega
   ·have li:a.length+1+b.length=r.size:=by rw[<-bn,iv];simp;omega
    have bK:Np.bg r.data.toList=Np.bg a ++ [b]:=by rw[iv];exact (Np.C6 a b).trans (by rw[Np.zL ux])
    have hx:pre ++ [b] <+: Np.back t.data.toList:=by rw[HP.out,bK];simp
    have uL:(r.extract (a.length+1) r.size).data.toList=b:=by rw[Ea,iv];simp
    have rE:(r.extract 0 a.length).data.toList=a:=by rw[Eb,iv];simp
    have CE:(r.extract 0 a.length).size=a.length:=by rw[<-bn,rE]
    obtain⟨fn,tmps,assign,body,hy,hR⟩:=hY pre b S1 wr hx hj ab an;have mP:Sem.run prog (Instr.yield l #[.string (r.extract (a.length+1) r.size)]) wr = .ok (.round l fn tmps assign body) wr:=by
     have:aA b = .string (r.extract (a.length+1) r.size):=by show Value.string _=_;congr 1;exact j9 (by rw[uL])
     simp only[this] at hy;exact hy
    clear hy;have HX:=jq hx;have HS:=jq bK;have HA:=jq rE;have vS:=jq CE;clear hx bK uL rE CE iv ux;have je:a.length<=140737488355328:=by omega
    have O6:a.length+1<=r.size:=by omega
    have H2:=jq li;clear li;gi_wp2_with fail;refine⟨rfl,hR.mono ?_⟩;rintro e W3 ⟨S3,aM,qq,nX,(⟨rfl,wE⟩ | ⟨rfl,wF⟩)⟩
    ·have ZL:=aM.size;gi_wp2_with fail;go_roundw
     case rel=>
      refine⟨pre ++ [b],r.extract 0 a.length,S3,rfl,by rw[vS.out];exact je,?_,wE,nX,by omega,λk e=>?_⟩
      ·rw[HP.out,HS.out,HA.out];simp
      ·rcases qq k e with e | e
       ·exact bE k e
       ·right;omega
     case measure=>show (r.extract 0 a.length).size<r.size;rw[vS.out];omega
    ·gi_wp2_with fail;refine bodyPost_ret (results_none rfl _ _ _) rfl ?_;refine⟨⟨_,rfl⟩,.inr ⟨_,S3,HX.out,wF,λk e=>?_⟩⟩;rcases qq k e with e | e
     ·exact bE k e
     ·right;omega
end
namespace D
open Go.RowKit Go.Shelf
attribute [local go_sem] Oper.semAt_some
def vd(pre:List (List UInt8)):Bool:=pre.getLast? == some [42]
def DV(w:World)(xs:List (List UInt8))(pre:List (List UInt8))(S:Nat->Prop)(W:World):Prop:=
 (∀ k,S k↔k=w.heap.size\/k=w.heap.size+1\/k=w.heap.size+1+1)/\Boxed W w.heap.size 4 (.bool false)/\Boxed W (w.heap.size+1) 3 (.int .i64 pre.length)/\Boxed W (w.heap.size+1+1) 4 (.bool (vd pre))/\
 (pre.length<=8/\∀ rest,xs=pre++rest->Np.gh xs 0 false=Np.gh rest pre.length (vd pre))/\Below w.heap.size w W
def DW(w:World)(xs:List (List UInt8))(c:Code)(_:List (List UInt8))(S:Nat->Prop)(W:World):Prop:=
 c = .ret/\(∀ k,S k↔k=w.heap.size\/k=w.heap.size+1\/k=w.heap.size+1+1)/\Boxed W w.heap.size 4 (.bool false)/\Np.gh xs 0 false=false/\Below w.heap.size w W
theorem ST(w:World)(xs:List (List UInt8))(B:Nat)(hB:w.heap.size<=B):gp B (DV w xs):=by
 rintro s S W W' ⟨hS,h1,h2,h3,h4,h5⟩ aB;exact⟨hS,kU h1 aB ((hS _).2 (.inl rfl)),kU h2 aB ((hS _).2 (.inr (.inl rfl))),kU h3 aB ((hS _).2 (.inr (.inr rfl))),h4,wh h5 aB hB (bQ _)⟩
theorem aRJ(w:World)(xs:List (List UInt8))(B:Nat)(hB:w.heap.size<=B)(c:Code):gp B (DW w xs c):=by
 rintro s S W W' ⟨hc,hS,h1,h4,h5⟩ aB;exact⟨hc,hS,kU h1 aB ((hS _).2 (.inl rfl)),h4,wh h5 aB hB (bQ _)⟩
theorem LC{w:World}{xs pre:List (List UInt8)}{S:Nat->Prop}{W W3:World}{a:Act}(hS:∀ k,S k↔k=w.heap.size\/k=w.heap.size+1\/k=w.heap.size+1+1)
 (hr:RdStep S W W3) (ab:∀ k,S k->k<W.heap.size) (c0:Boxed W3 w.heap.size 4 (.bool false)) (hB:Below w.heap.size w W3) (hg:Np.gh xs 0 false=false) :
 nG (DV w xs) (DW w xs) pre S W .ret a (W3.setCell ⟨w.heap.size,0,none⟩ (.bool false)):=
 ⟨S,hr.setCell (.inl ((hS _).2 (.inl rfl))) _,λ_ e=>.inl e,λk e=>by have:=ab k e;have:=hr.size;simp[World.setCell];omega,rfl,hS,c0.set _,hg,hB.setCell (bQ _) _⟩
theorem SU{w:World}{xs pre rest:List (List UInt8)}{x:List UInt8}{S:Nat->Prop}{W W3:World}{a:Act}(hS:∀ k,S k↔k=w.heap.size\/k=w.heap.size+1\/k=w.heap.size+1+1)
 (hr:RdStep S W W3) (ab:∀ k,S k->k<W.heap.size) (c0:Boxed W3 w.heap.size 4 (.bool false)) (c1:Boxed W3 (w.heap.size+1) 3 (.int .i64 (pre.length+1))) (c2:Boxed W3 (w.heap.size+1+1) 4 (.bool (x == [42])))
 (hB:Below w.heap.size w W3) (s6:pre ++ [x]++rest=xs) (hl:pre.length+1<=8) (hg:Np.gh xs 0 false=Np.gh rest (pre.length+1) (x == [42])) :
 nG (DV w xs) (DW w xs) (pre ++ [x]) S W .normal a W3:=by
 have hw:vd (pre ++ [x])=(x == [42]):=by simp[vd]
 refine⟨S,hr,λ_ e=>.inl e,λk e=>by have:=ab k e;have:=hr.size;omega,hS,c0,by simpa using c1,by rw[hw];exact c2,⟨by simpa using hl,λr h=>?_⟩,hB⟩
 have:r=rest:=List.append_cancel_left (h.symm.trans s6.symm)
 rw[hg,this,hw];simp
theorem valid_any(t:ByteArray)(ht:t.size<=140737488355328)(w:World) :
 Calls prog 175 #[.string t] w λe w'=>e = .returned (.bool (Np.aD t.data.toList))/\Below w.heap.size w w':=by
 refine (callsIn_wide (n:=0)).1 ?_;refine callsIn_of_wp_marks func175 rfl trivial ?_ rfl;simp only[ntmps175,List.size_toArray,List.length_cons,List.length_nil,Nat.reduceAdd,Nat.reduceSub,Array.replicate_succ,Array.replicate_zero,List.push_toArray,List.append_toArray,List.nil_append,List.cons_append];gi_wp2_with fail
 ·have he:(t.toList == [46])=true:=by assumption
  have lK:t.data.toList = [46]:=by rw[<-dQ];simpa using he
  exact kV (v:=.bool true) (by simp[results,results175,go_sem]) ⟨by rw[Np.aD,Qb lK],(vQ _ _).alloc (bQ _) _⟩
 ·have he:(t.toList == [46])=false:=by assumption
  have lK:¬ t.data.toList = [46]:=by rw[<-dQ];simpa using he
  have hl:60<(t.size:Int):=by assumption
  exact kV (v:=.bool false) (by simp[results,results175,go_sem]) ⟨by rw[Np.aD,Qc lK,Qb (by rw[bn];omega)],(vQ _ _).alloc (bQ _) _⟩
 ·have he:(t.toList == [46])=false:=by assumption
  have lK:¬ t.data.toList = [46]:=by rw[<-dQ];simpa using he
  have hl:(t.size:Int)<=60:=by assumption
  have hv:Np.aD t.data.toList=Np.gh (Np.back t.data.toList) 0 false:=by
   rw[Np.aD,Qc lK,Qc (by rw[bn];omega),Np.back,Qc lK]
  have HV:=jq hv;clear hv;have b0:=Boxed.new w 4 (.bool false);have b1:=Boxed.new (w.alloc (.cells #[.bool false] 4)) 3 (.int .i64 0);have b2:=Boxed.new ((w.alloc (.cells #[.bool false] 4)).alloc (.cells #[.int .i64 0] 3)) 4 (.bool false);simp only[World.size_alloc] at b1 b2;refine F6 (n₀:=w.heap.size) (w0:=w) (first:=#[.string t]) (captured:=#[]) (gf:=215) rfl (enters_of func215 (by kernel_rfl) rfl) (mk:=λy=>#[.string t,y]) (λ_=>rfl)
   (DY t ht _ w) ((((vQ _ w).alloc (bQ _) _).alloc (by simp) _).alloc (by simp;omega) _) (by simp;omega) (λ_=>rfl) (DV w (Np.back t.data.toList)) (DW w (Np.back t.data.toList))
   (ST _ _ _ (by simp;omega)) (λc=>aRJ _ _ _ (by simp;omega) c)
   (λk=>k=w.heap.size\/k=w.heap.size+1\/k=w.heap.size+1+1) (by intro k h;omega) (by intro k h;simp;omega)
   ⟨λ_=>Iff.rfl,(b0.alloc _).alloc _,b1.alloc _,b2,⟨by simp,λrest h=>by rw[h];rfl⟩,(((vQ _ w).alloc (bQ _) _).alloc (by simp) _).alloc (by simp;omega) _⟩ ?round ?done ?stop
  case round=>
   rintro l0 pre x S W ba hI fR;gi_wp2;refine⟨S,RdStep.refl _ _,λk e=>.inl e,fR,?_⟩;intro l W₂ aB;obtain⟨hS,c0,c1,c2,hg,hB⟩:=ST w _ _ (by simp;omega) pre S W W₂ hI aB;have c0c:=c0.cell;have c1c:=c1.cell;have c2c:=c2.cell;have c0f:=c0.frozen;have c1f:=c1.frozen;have c2f:=c2.frozen;have hlen:=hg.1;have hx:x∈Np.back t.data.toList:=ba.subset (by simp);have uM:x.length<=60:=by have:=Np.DX hx;rw[bn] at this;omega
   have nZ:(⟨x.toArray⟩:ByteArray).size<=140737488355328:=by rw[<-bn];simp;omega
   obtain⟨rest,s6⟩:=ba;have kw:Np.gh (Np.back t.data.toList) 0 false=Np.gh (x::rest) pre.length (vd pre):=hg.2 _ (by rw[<-s6];simp);have HR:=jq s6;have HG:=jq kw;have BV:∀ (b:Nat) (u:Value),w.heap.size<=b->Below w.heap.size w (W₂.setCell ⟨b,0,none⟩ u):=λb u hb=>hB.setCell (p:=⟨b,0,none⟩) hb u;have mD:∀ k,S k->k<W₂.heap.size:=λk e=>lQ (fR k e) aB.size;clear s6 kw hg hx;gi_wp2_with (refine⟨trivial,rfl,?_⟩;gi_at_call 245;refine (CallsIn.inRound l (callsIn_wide.2 (afX _ nZ _))).mono ?_;rintro e w' ⟨rfl,rfl⟩)
   ·exact LC hS (RdStep.setCell (RdStep.refl S W₂) (p:=⟨w.heap.size+1,0,none⟩) (.inl ((hS _).2 (.inr (.inl rfl)))) _) mD (fO c0 (p:=⟨w.heap.size+1,0,none⟩) (by simp) _) (BV _ _ (by omega))
     (by rw[HG.out];have:vd pre=true:=by assumption
         simp[Np.gh,this])
   ·exact LC hS (RdStep.setCell (RdStep.refl S W₂) (p:=⟨w.heap.size+1,0,none⟩) (.inl ((hS _).2 (.inr (.inl rfl)))) _) mD (fO c0 (p:=⟨w.heap.size+1,0,none⟩) (by simp) _) (BV _ _ (by omega))
     (by rw[HG.out];have:8<pre.length+1:=by omega
         simp[Np.gh,this])
   ·have eC:x = [42]:=by assumption
    have e:(x == [42])=true:=by simp[eC]
    have ie:(pre.length:Int)+1<=8:=by assumption
    have h1:¬ vd pre=true:=by assumption
    have h2:¬ 8<pre.length+1:=by omega
    refine⟨trivial,?_⟩;gi_wp2;exact SU hS (RdStep.setCell (RdStep.setCell (RdStep.refl S W₂) (p:=⟨w.heap.size+1,0,none⟩) (.inl ((hS _).2 (.inr (.inl rfl)))) _) (p:=⟨w.heap.size+1+1,0,none⟩) (.inl ((hS _).2 (.inr (.inr rfl)))) _) mD
     (fO (fO c0 (p:=⟨w.heap.size+1,0,none⟩) (by simp) _) (p:=⟨w.heap.size+1+1,0,none⟩) (by simp <;> omega) _)
     (fO (c1.set _) (p:=⟨w.heap.size+1+1,0,none⟩) (by simp <;> omega) _) (by rw[e];exact (fO c2 (p:=⟨w.heap.size+1,0,none⟩) (by simp) _).set _)
     ((BV _ _ (by omega)).setCell (p:=⟨w.heap.size+1+1,0,none⟩) (by simp;omega) _) HR.out (by omega) (by rw[HG.out];simp[Np.gh,h1,h2,eC])
   ·have hl:(!x == [42])=true/\(!Np.cM x)=true:=by assumption
    have eC:¬ x = [42]:=by assumption
    exact LC hS (RdStep.setCell (RdStep.setCell (RdStep.refl S W₂) (p:=⟨w.heap.size+1,0,none⟩) (.inl ((hS _).2 (.inr (.inl rfl)))) _) (p:=⟨w.heap.size+1+1,0,none⟩) (.inl ((hS _).2 (.inr (.inr rfl)))) _) mD
     (fO (fO c0 (p:=⟨w.heap.size+1,0,none⟩) (by simp) _) (p:=⟨w.heap.size+1+1,0,none⟩) (by simp <;> omega) _)
     ((BV _ _ (by omega)).setCell (p:=⟨w.heap.size+1+1,0,none⟩) (by simp;omega) _)
     (by rw[HG.out];have h2:Np.cM x=false:=by simpa using hl.2
         simp[Np.gh,eC,h2])
   ·have hl:(!x == [42])=false\/(!Np.cM x)=false:=by assumption
    have eC:¬ x = [42]:=by assumption
    have e:(x == [42])=false:=by simp[eC]
    have ie:(pre.length:Int)+1<=8:=by assumption
    have h1:¬ vd pre=true:=by assumption
    have h2:¬ 8<pre.length+1:=by omega
    have h3:Np.cM x=true:=by simpa [e] using hl
    exact SU hS (RdStep.setCell (RdStep.setCell (RdStep.refl S W₂) (p:=⟨w.heap.size+1,0,none⟩) (.inl ((hS _).2 (.inr (.inl rfl)))) _) (p:=⟨w.heap.size+1+1,0,none⟩) (.inl ((hS _).2 (.inr (.inr rfl)))) _) mD
     (fO (fO c0 (p:=⟨w.heap.size+1,0,none⟩) (by simp) _) (p:=⟨w.heap.size+1+1,0,none⟩) (by simp <;> omega) _)
     (fO (c1.set _) (p:=⟨w.heap.size+1+1,0,none⟩) (by simp <;> omega) _) ((fO c2 (p:=⟨w.heap.size+1,0,none⟩) (by simp) _).set _)
     ((BV _ _ (by omega)).setCell (p:=⟨w.heap.size+1+1,0,none⟩) (by simp;omega) _) HR.out (by omega) (by rw[HG.out];simp[Np.gh,h1,h2,eC,h3,e])
  case done=>
   rintro D S W hD gW bE ⟨hS,c0,c1,c2,hg,hB⟩ hK;have c0c:=c0.cell;have c0f:=c0.frozen;have sM:Np.gh (Np.back t.data.toList) 0 false=true:=by rw[hg.2 [] (by simp)];rfl
   have En:w.heap.size≠D:=λe=>gW ((hS _).2 (.inl e.symm));clear hg;have HE:=jq sM;clear sM;gi_wp2;have hK':(W.setCell ⟨w.heap.size,0,none⟩ (.bool true)).heap[D]?=some (.deferred (some [])):=(wQ _ _ _ _ (by simpa using En.symm)).trans hK;have c5:=(wk (c0.set (.bool true)) En (.deferred none)).cell;exact nJ hK' (v:=.bool true) (by simp[results,results175,go_sem,c5]) ⟨by rw[HV.out,HE.out],mA (hB.setCell (bQ _) _) (by simp at hD;omega) _⟩
  case stop=>
   rintro D c pre S W hD gW bE gI ⟨rfl,hS,c0,hg,hB⟩ hK;have En:w.heap.size≠D:=λe=>gW ((hS _).2 (.inl e.symm));have HE:=jq hg;clear hg;gi_wp2;have c5:=(wk c0 En (.deferred none)).cell;exact nJ hK (v:=.bool false) (by simp[results,results175,go_sem,c5]) ⟨by rw[HV.out,HE.out],mA hB (by simp at hD;omega) _⟩
theorem nameValid_any(t:ByteArray)(ht:t.size<=140737488355328)(w:World) :
 Calls prog 105 #[.string t] w λe w'=>e = .returned (.bool (Np.aD t.data.toList))/\Below w.heap.size w w':=by
 go_enter func105,ntmps105;go_wp2_with (go_at_call 175;refine (valid_any _ ht _).mono ?_;rintro e w' ⟨rfl,hb⟩);go_ret;exact⟨rfl,hb⟩
end D
section
open Go.RowKit
theorem valid_any(t:ByteArray)(ht:t.size<=140737488355328)(w:World) :
 Calls prog 175 #[.string t] w (a0X w.heap.size w (.bool (Np.aD t.data.toList))):=
 (D.valid_any t ht w).mono λ_ _ h=>⟨h.1,h.2.low⟩
theorem nameValid_any(t:ByteArray)(ht:t.size<=140737488355328)(w:World) :
 Calls prog 105 #[.string t] w (a0X w.heap.size w (.bool (Np.aD t.data.toList))):=
 (D.nameValid_any t ht w).mono λ_ _ h=>⟨h.1,h.2.low⟩
theorem LL(x lo hi:Int)(w:World) :
 Calls prog 228 #[.int .i64 x,.int .i64 lo,.int .i64 hi] w (a1Q w (.bool (decide (lo<=x)&&decide (x<=hi)))):=by
 by_cases h1:lo<=x
 all_goals
  go_enter func228,ntmps228;go_wp2;go_ret;exact⟨ag (by simp;omega),rfl⟩
theorem Q2(s:ByteArray)(h:1<=s.size):((s.extract 0 1).toList == [42])=Np.eD s.data.toList:=by
 rw[dQ,Eb];unfold Np.eD;have hl:1<=s.data.toList.length:=by rw[bn];exact h
 cases hd:s.data.toList with
 | nil=>rw[hd] at hl;simp at hl
 | cons a r=>rw[Bool.eq_iff_iff];simp
theorem Q3(s:ByteArray)(hs:s.size<=140737488355328)(w:World) :
 Calls prog 229 #[.string s] w (a1Q w (.bool (Np.eD s.data.toList))):=by
 have h1:1<=s.size->((s.extract 0 1).toList == [42])=Np.eD s.data.toList:=Q2 s;have h2:s.size<1->Np.eD s.data.toList=false:=λh=>by
  have:s.data.toList = []:=rQ (by rw[bn];omega)
  rw[this];rfl
 have H1:=jq h1;have H2:=jq h2;clear h1 h2;go_enter func229,ntmps229;go_wp2
 ·go_ret;exact⟨ag (H1.out (by omega)),rfl⟩
 ·go_ret;exact⟨ag (H2.out (by omega)).symm,rfl⟩
theorem Wx(s t:ByteArray)(w:World) :
 Calls prog 303 #[.string s,.string t] w (a1Q w (.int .i64 (Np.cV s.data.toList t.data.toList))):=by
 go_enter func303,ntmps303;go_wp2
 ·have h:Op.bytesLess s.toList t.toList=true:=by assumption
  simp only[dQ] at h;go_ret;exact⟨j5 (by simp[Np.cV,h]),rfl⟩
 ·have h:Op.bytesLess s.toList t.toList=false:=by assumption
  have h2:(!s.toList == t.toList)=true:=by assumption
  simp only[dQ] at h h2;have h3:¬ s.data.toList=t.data.toList:=by simpa using h2
  go_ret;exact⟨j5 (by rw[Np.cV,Qc (by simp[h]),Qc h3]),rfl⟩
 ·have h:Op.bytesLess s.toList t.toList=false:=by assumption
  have h2:(!s.toList == t.toList)=false:=by assumption
  simp only[dQ] at h h2;have h3:s.data.toList=t.data.toList:=by simpa using h2
  go_ret;exact⟨j5 (by rw[Np.cV,Qc (by simp[h]),Qb h3]),rfl⟩
theorem Bt(s t:Int)(w:World) :
 Calls prog 123 #[.int .i64 s,.int .i64 t] w (a1Q w (.int .i64 (Np.de s t))):=by
 go_enter func123,ntmps123;go_wp2
 ·go_ret;exact⟨j5 (by rw[Np.de,Qb ‹_›]),rfl⟩
 ·go_ret;exact⟨j5 (by rw[Np.de,Qc (by omega),Qb ‹_›]),rfl⟩
 ·go_ret;exact⟨j5 (by rw[Np.de,Qc (by omega),Qc (by omega)]),rfl⟩
theorem Ef(c:UInt8):Np.oZ c=decide ((97<=(c.toNat:Int)/\(c.toNat:Int)<=122)\/(48<=(c.toNat:Int)/\(c.toNat:Int)<=57)\/(c.toNat:Int)=32):=by
 have h:=pw c 32 (by decide);unfold Np.oZ Np.rF Np.n9;rw[show (32:UInt8)=UInt8.ofNat 32 from rfl,h,Bool.eq_iff_iff];simp[UInt8.le_iff_toNat_le];omega
theorem QV(s:ByteArray)(h:(s.size:Int)<1):Np.kD s.data.toList=false:=by
 have:¬ 1<=s.size:=by omega
 simp[Np.kD,this]
theorem QW(s:ByteArray)(h:40<(s.size:Int)):Np.kD s.data.toList=false:=by
 have:¬ s.size<=40:=by omega
 simp[Np.kD,this]
theorem QX(s:ByteArray)(h0:0<s.size)(h:(s[0].toNat:Int)=32):Np.kD s.data.toList=false:=by
 have e:=pw s[0] 32 (by decide);rw[uQ (by simpa using h)] at e;have e2:s[0]=(32:UInt8):=by simpa using e
 simp[Np.kD,B6 s h0,e2]
theorem QY(s:ByteArray)(h0:s.size - 1<s.size)(h:(s[s.size - 1].toNat:Int)=32):Np.kD s.data.toList=false:=by
 have e:=pw s[s.size - 1] 32 (by decide);rw[uQ (by simpa using h)] at e;have e2:s[s.size - 1]=(32:UInt8):=by simpa using e
 simp[Np.kD,Fr s h0,e2]
theorem QZ(s:ByteArray)(k:Nat)(hk:k<s.size)(h:Np.oZ s[k]=false):Np.kD s.data.toList=false:=by
 have:s.data.toList.all Np.oZ=false:=by
  rw[List.all_eq_false];exact⟨s[k],by rw[<-cQ.1 (yW s k hk) |>.2];exact List.getElem_mem _,by simp[h]⟩
 simp[Np.kD,this]
theorem Q0(s:ByteArray)(h1:1<=s.size)(h2:s.size<=40)(h3:¬ (s[0].toNat:Int)=32)(h4:¬ (s[s.size - 1].toNat:Int)=32)(h5:s.data.toList.all Np.oZ=true):Np.kD s.data.toList=true:=by
 have e:=pw s[0] 32 (by decide);have e':=pw s[s.size - 1] 32 (by decide);rw[tQ (by simpa using h3)] at e;rw[tQ (by simpa using h4)] at e';have e2:¬ s[0]=(32:UInt8):=by simpa using e
 have e3:¬ s[s.size - 1]=(32:UInt8):=by simpa using e'
 simp[Np.kD,Fr s (by omega),B6 s (by omega),e2,e3,h5,h1,h2]
theorem aeK(s:ByteArray)(hs:s.size<=140737488355328)(w:World) :
 Calls prog 301 #[.string s] w (a1Q w (.bool (Np.kD s.data.toList))):=by
 ·go_enter func301,ntmps301;go_wp2
  rotate_right
  ·go_ret;exact⟨ag (QV s ‹_›).symm,rfl⟩
  ·go_ret;exact⟨ag (QW s ‹_›).symm,rfl⟩
  ·go_ret;exact⟨ag (QX s ‹_› ‹_›).symm,rfl⟩
  ·have h:((s[s.size - 1].toNat:Int) == 32)=true:=by assumption
   go_ret;exact⟨ag (QY s (by omega) (by simpa using h)).symm,rfl⟩
  ·have h2:(s.size:Int)<=40:=by assumption
   have h3:¬ (s[0].toNat:Int)=32:=by assumption
   have h4:((s[s.size - 1].toNat:Int) == 32)=false:=by assumption
   have H4:=jq h4;clear h4;have H3:=jq h3;go_loop [24] (λi=>∃ k:Nat,k<=s.size/\i = .int .i64 k/\(s.data.toList.take k).all Np.oZ=true) (λi=>s.size - (intOf i).toNat)
   case atStart=>exact⟨0,jQ _,rfl,rfl⟩
   case round=>
    obtain⟨k,hk,rfl,ha⟩:=hrel;have HA:=jq ha;clear ha;by_cases ab:k<s.size
    ·have hb:=zP s[k];by_cases hf:(97<=(s[k].toNat:Int)/\(s[k].toNat:Int)<=122)\/(48<=(s[k].toNat:Int)/\(s[k].toNat:Int)<=57)\/(s[k].toNat:Int)=32
     ·have hl:Np.oZ s[k]=true:=by rw[Ef];exact uQ hf
      have HL:=jq hl;clear hl;go_wp2
      all_goals first
       | (go_round
          case rel=>exact⟨k+1,by omega,by go_num,II s k ab _ HA.out HL.out⟩
          case measure=>simp[intOf] <;> omega)
       | (exfalso
          have hne:((s[k].toNat:Int) != 32)=true:=by assumption
          have Cr:=bne_iff_ne.1 hne;omega)
     ·have hl:Np.oZ s[k]=false:=by rw[Ef];exact tQ hf
      have HL:=jq hl;clear hl;go_wp2
      all_goals first
       | (go_ret;exact⟨ag (QZ s k ab HL.out).symm,rfl⟩)
       | (exfalso;omega)
       | (exfalso
          have hne:((s[k].toNat:Int) != 32)=false:=by assumption
          have Cr:(s[k].toNat:Int)=32:=by simpa using hne
          omega)
    ·go_wp2;go_ret;exact⟨ag (Q0 s (by omega) (by omega) H3.out (by simpa using H4.out) (by have:=HA.out;rwa [FZ s k (by omega)] at this)).symm,rfl⟩
end
namespace Np
def cls(c:UInt8):Nat:=
 if c=32\/c=9\/c=10 then 1 else if c=35 then 2 else if rF c||n9 c||c == 42 then 3 else if c=45 then 4 else if c=46 then 5 else if c=34 then 6
 else if c=123\/c=125\/c=59\/c=44\/c=61\/c=64 then 7 else 0
def tg(c:UInt8):Bool:=cls c == 3||cls c == 4||cls c == 5
def Rs(c:UInt8):Bool:=c != 10
def KN(c:UInt8):Bool:=c != 34&&c != 10
def awX(r:List UInt8):Nat:=if 1<=(r.takeWhile KN).length/\r[(r.takeWhile KN).length]?=some 34 then (r.takeWhile KN).length+2 else 0
def SZ:List UInt8->Nat
 | []=>0
 | c::r=>match cls c with
   | 1=>1
   | 2=>((c::r).takeWhile Rs).length
   | 3=>((c::r).takeWhile tg).length
   | 5=>if ((c::r).takeWhile tg).length=1 then 1 else 0
   | 6=>awX r
   | 7=>1
   | _=>0
structure Tok where
 kind:Int
 text:List UInt8
 n:Int
 pos:Int
deriving DecidableEq
def Tok.zero:Tok:=⟨0,[],0,0⟩
def dec(s:List UInt8):Nat:=s.foldl (λa c=>10 * a+(c.toNat - 48)) 0
def C8(k:Nat)(s:List UInt8):Int×Tok:=
 if k=7 then (0,⟨3,s,0,0⟩)
 else if k=6 then (if 42<s.length then (3,Tok.zero) else (0,⟨1,s,0,0⟩))
 else if s.all n9=false then (if 60<s.length then (3,Tok.zero) else (0,⟨1,s,0,0⟩))
 else if 1<s.length/\s.head?=some 48 then (10,Tok.zero)
 else if 1000000000<dec s then (3,Tok.zero) else (0,⟨2,[],dec s,0⟩)
def po:List UInt8->Nat->Nat->List Tok×Int×Nat
 | [],_,_=>([],0,0)
 | c::r,p,k=>
  let n:=SZ (c::r)
  if cls c=1\/cls c=2 then po (r.drop (n - 1)) (p+n) k
  else if n=0 then ([],10,p)
  else if k=2000 then ([],2,p)
  else if (C8 (cls c) ((c::r).take n)).1≠0 then ([],(C8 (cls c) ((c::r).take n)).1,p)
  else
   let x:=po (r.drop (n - 1)) (p+n) (k+1)
   ({ (C8 (cls c) ((c::r).take n)).2 with pos:=p } :: x.1,x.2)
termination_by l=>l.length
decreasing_by all_goals (simp;omega)
def lex(s:List UInt8):List Tok×Int×Nat:=
 if 8000<s.length then ([],2,0) else if (po s 0 0).2.1=0 then ((po s 0 0).1,0,0) else ([],(po s 0 0).2)

end Np
section
open Go.RowKit
def orI:List Int->Int
 | []=>0
 | x::xs=>if x≠0 then x else orI xs
theorem aqK(xs:List Int)(h:∀ x∈xs,x=0):orI xs=0:=by
 induction xs with
 | nil=>rfl
 | cons x r ih=>rw[orI,Qc (by simp[h x (by simp)])];exact ih (λy hy=>h y (by simp[hy]))
theorem aqJ(xs:List Int)(k:Nat)(hk:k<xs.length)(h:∀ x∈xs.take k,x=0)(hx:xs[k]≠0):orI xs=xs[k]:=by
 induction xs generalizing k with
 | nil=>simp at hk
 | cons x r ih=>
  cases k with
  | zero=>simp at hx;simp[orI,hx]
  | succ k=>
   have h0:x=0:=h x (by simp);rw[orI,Qc (by simp[h0])];simpa using ih k (by simpa using hk) (λy hy=>h y (by simp[hy])) (by simpa using hx)
theorem Ww(b c:Nat)(xs:List Int)(hl:xs.length<=1000)(w:World)(hc:∀ i x,xs[i]?=some x->w.cell? ⟨b,i,none⟩=some (.int .i64 x)) :
 Calls prog 302 #[.slice (some ⟨b,0,none⟩) xs.length c] w (a1Q w (.int .i64 (orI xs))):=by
 have HC:=jq hc;clear hc;go_enter func302,ntmps302;go_wp2;go_loop [8] (λi=>∃ k:Nat,k<=xs.length/\i = .int .i64 k/\Hid (∀ x∈xs.take k,x=0)) (λi=>xs.length - (intOf i).toNat)
 case atStart=>exact⟨0,jQ _,rfl,jq (by simp)⟩
 case round=>
  obtain⟨k,hk,rfl,HA⟩:=hrel;by_cases ab:k<xs.length
  ·have hcell:w.cell? ⟨b,k,none⟩=some (.int .i64 xs[k]):=HC.out k _ (aQ ab);go_wp2
   ·have hne:(xs[k] != 0)=true:=by assumption
    go_ret;exact⟨j5 (aqJ xs k ab HA.out (by simpa using hne)).symm,rfl⟩
   ·have hne:(xs[k] != 0)=false:=by assumption
    go_round
    case rel=>
     refine⟨k+1,by omega,by go_num,jq ?_⟩;rw[fQ ab];intro x hx;rcases List.mem_append.1 hx with h | h
     ·exact HA.out x h
     ·simp at h;subst h;simpa using hne
    case measure=>simp[intOf] <;> omega
  ·go_wp2;go_ret;exact⟨j5 (aqK xs (by have:=HA.out;rwa [kQ (by omega)] at this)).symm,rfl⟩
theorem Wv(a b:Np.Datum):Np.re a b=orI [Np.cV a.text b.text,Np.de a.n b.n,Np.de a.m b.m]:=by
 simp only[Np.re,orI];split
 ·rfl
 ·split
  ·rfl
  ·split
   ·rfl
   ·rename_i h;simpa using h
theorem WB(s t:ByteArray)(n1 m1 n2 m2:Int)(w:World) :
 Calls prog 231 #[.agg #[.string s,.int .i64 n1,.int .i64 m1],.agg #[.string t,.int .i64 n2,.int .i64 m2]] w
  λe w'=>e = .returned (.int .i64 (Np.re ⟨s.data.toList,n1,m1⟩ ⟨t.data.toList,n2,m2⟩))/\Below w.heap.size w w':=by
 rw[Wv];go_enter func231,ntmps231;go_wp2;refine Td 15 (by kernel_rfl) (by kernel_rfl) ?_;simp only[List.take_succ_cons,List.take_zero,List.drop_succ_cons,List.drop_zero]
 iterate 4 still_step
 still_call (Calls.still_same (Wx _ _ _))
 iterate 4 still_step
 still_call (Calls.still_same (Bt _ _ _))
 iterate 4 still_step
 still_call (Calls.still_same (Bt _ _ _))
 refine wpStill_nil ?_;go_wp2_with fail;refine (Ww (w.heap.size+1+1) 3 [Np.cV s.data.toList t.data.toList,Np.de n1 n2,Np.de m1 m2] (by simp) _ ?_).mono ?_
 ·intro i x hx
  match i,hx with
  | 0,hx=>simp at hx;subst hx;go_simp
  | 1,hx=>simp at hx;subst hx;go_simp
  | 2,hx=>simp at hx;subst hx;go_simp
  | i+3,hx=>simp at hx
 ·rintro e w' ⟨rfl,rfl⟩;go_wp2_with fail;go_ret;exact⟨rfl,((((vQ _ w).alloc (bQ _) _).alloc (by simp) _).alloc (by simp;omega) _).drew⟩
def jz(r:Np.Rule):Array Value:=#[.int .i64 r.text,.int .i64 r.leastN,.int .i64 r.mostN,.int .i64 r.leastM,.int .i64 r.mostM,.bool r.even,.bool r.single,.bool r.wild]
theorem aRX(k ln mn lm mm:Int)(ev si wi:Bool)(s:ByteArray)(hs:s.size<=140737488355328)(n m:Int)(w:World) :
 Calls prog 230 #[.agg #[.int .i64 k,.int .i64 ln,.int .i64 mn,.int .i64 lm,.int .i64 mm,.bool ev,.bool si,.bool wi],.agg #[.string s,.int .i64 n,.int .i64 m]] w
  λe w'=>e = .returned (.bool (Np.kb ⟨k,ln,mn,lm,mm,ev,si,wi⟩ ⟨s.data.toList,n,m⟩))/\Below w.heap.size w w':=by
 go_enter func230,ntmps230;go_wp2_with (first
  | (go_at_call 228;refine (LL _ _ _ _).mono ?_;rintro e w' ⟨rfl,rfl⟩)
  | (go_at_call 105;refine (nameValid_any _ hs _).mono ?_;rintro e w' ⟨rfl,hb⟩;obtain⟨hc,hf⟩:=tV hb)
  | (go_at_call 229;refine (Q3 _ hs _).mono ?_;rintro e w' ⟨rfl,rfl⟩)
  | (go_at_call 301;refine (aeK _ hs _).mono ?_;rintro e w' ⟨rfl,rfl⟩))
 all_goals
  go_ret;go_light;refine⟨ag ?_,?_⟩
  ·simp_all [Np.kb,Np.yc,dQ] <;> (intros;omega)
  ·first
    | exact ((vQ _ w).alloc (bQ _) _).alloc (by simp) _
    | exact (((vQ _ w).alloc (bQ _) _).alloc (by simp) _).trans (hb.mono (by simp;omega))
end
namespace Np
structure IsGap(g:List UInt8):Prop where
 skip:∀ x p k,po (g++x) p k=po x (p+g.length) k
 stop:∃ c r,g=c::r/\tg c=false
 rest:∀ p k,po (g.drop (g.takeWhile Rs).length) p k=([],0,0)
def nI(n:Nat):List UInt8:=if n<10 then [UInt8.ofNat (48+n)] else nI (n / 10) ++ [UInt8.ofNat (48+n % 10)]
theorem WV(t:List UInt8)(c:UInt8):dec (t ++ [c])=10 * dec t+(c.toNat - 48):=by simp[dec]
theorem YH{t u:List UInt8}(h:t≠[]):(t++u).head?=t.head?:=by
 cases t with
 | nil=>exact absurd rfl h
 | cons a t=>rfl
def Tl(y:List UInt8):Prop:=y = []\/y.head?=some 32
def D5(t:Tok):Tok:={ t with pos:=0 }
def ou(x:List UInt8)(t:Tok):Prop:=∃ c r,x=c::r/\¬ (cls c=1\/cls c=2)/\(∀ y,Tl y->SZ (x++y)=x.length)/\(C8 (cls c) x).1=0/\D5 (C8 (cls c) x).2=D5 t
structure Sig where
 zone:List UInt8
 key:Int
 alg:Int
 frm:Int
 til:Int
 sum:Int
deriving DecidableEq
structure Signed where
 set:DSet
 sigs:List Sig
deriving DecidableEq
structure Span where
 frm:Int
 til:Int
deriving DecidableEq
def aJX(g x:Sig):Bool:=(x.frm != g.frm)||(x.til != g.til)
def arY:List Sig->Bool
 | []=>true
 | g::r=>!(decide (g.frm<0)||decide (g.til<g.frm)||decide (20000000<g.til))&&!((g::r).any (aJX g))
def plain(s:Signed):Bool:=cZ s.set&&decide (s.sigs.length<=6)&&arY s.sigs
def Lu(length drift life:Int):Int:=length - max life 1 - 3 * drift+2
def Lt(begin stop length drift life:Int):Prop:=0<=drift/\drift<=1000/\1<=stop/\stop<=10000000/\drift<=begin/\begin<=stop - 1/\1<=length/\length<=10000000/\0<=life/\life<=100000
instance (b s l d f:Int):Decidable (Lt b s l d f):=by unfold Lt;infer_instance
def SI(b s k:Int):List Int:=(List.range ((s - b+k - 1) / k).toNat).map λ(i:Nat)=>b+i * k
def aOY(b s l d f:Int):Int:=if Lt b s l d f then (if Lu l d f<1 then 32 else if 400<(SI b s (Lu l d f)).length then 2 else 0) else 1
def times(b s l d f:Int):List Int:=if aOY b s l d f=0 then SI b s (Lu l d f) else []
structure Zone where
 apex:List UInt8
 sets:List Signed
deriving DecidableEq
def nH:List (List UInt8)->List (List UInt8)->Int
 | [],_=>-1
 | _::_,[]=>1
 | x::xs,y::ys=>if cV x y≠0 then cV x y else nH xs ys
def aL(a b:List UInt8):Int:=if a=b then 0 else nH (back a) (back b)
def ir(a b:DSet):Int:=if a.name≠b.name then aL a.name b.name else de a.type b.type
def bD(s z:List UInt8):Bool:=s == z||z == [46]||(decide (z.length<s.length)&&(s.drop (s.length - z.length) == z)&&(s[s.length - z.length - 1]? == some 46))
def kn(apex:List UInt8):Option DSet->List Signed->Bool
 | _,[]=>true
 | p,x::r=>(aD x.set.name&&bD x.set.name apex)&&cZ x.set&&(match p with | none=>true | some q=>decide (ir q x.set<0))&&kn apex (some x.set) r
def fK(z:Zone):Bool:=aD z.apex&&!eD z.apex&&kn z.apex none z.sets
theorem OS:∀ (xs:List (List UInt8)) (n:Nat) (w:Bool),gh xs n w=true->∀ x∈xs,x = [42]\/cM x=true:=by
 intro xs
 induction xs with
 | nil=>intro _ _ _ x h;cases h
 | cons y xs ih=>
  intro n w h x hx;rw[gh] at h;split at h
  ·cases h
  ·split at h
   ·rename_i hy;rcases List.mem_cons.1 hx with rfl | hx
    ·exact .inl hy
    ·exact ih _ _ h x hx
   ·split at h
    ·rename_i hy;rcases List.mem_cons.1 hx with rfl | hx
     ·exact .inr hy
     ·exact ih _ _ h x hx
    ·cases h
theorem Bx{r:Rule} : ∀ {ds:List Datum} {p:Option Datum},jI r p ds=true->∀ d∈ds,kb r d=true
 | [],_,_,d,h=>by cases h
 | e::ds,p,h,d,hd=>by
   simp only[jI,Bool.and_eq_true] at h;rcases List.mem_cons.1 hd with rfl | hd
   ·exact h.1.1
   ·exact Bx h.2 d hd
theorem tu{s:DSet}(h:cZ s=true):aD s.name=true/\1<=s.type/\s.type<=8/\0<=s.life/\s.life<=100000/\1<=s.data.length/\s.data.length<=8/\jI (ci s.type) none s.data=true:=by
 unfold cZ at h;simp only[Bool.and_eq_true,Qa] at h;obtain⟨⟨⟨⟨⟨⟨h1,h2,h3⟩,h4,h5⟩,h6,h7⟩,_⟩,_⟩,h8⟩:=h;exact⟨h1,h2,h3,h4,h5,h6,h7,h8⟩
theorem Eg{apex:List UInt8} : ∀ {l:List Signed} {p:Option DSet},kn apex p l=true->∀ x∈l,cZ x.set=true
 | [],_,_,x,h=>by cases h
 | y::l,p,h,x,hx=>by
   simp only[kn,Bool.and_eq_true] at h;rcases List.mem_cons.1 hx with rfl | hx
   ·exact h.1.1.2
   ·exact Eg h.2 x hx
end Np
end Go.Proofs.YtfnopgdcaanaiaaGreatDoor
namespace Go.Proofs
open YtfnopgdcaanaiaaGreatDoor
open Go.Shelf
def Tryz.lays106_ren:Go.Shelf.Ren:=⟨fun | 106=>216 | 213=>299 | 265=>346 | n=>n,fun | 9=>9 | 3=>3 | n=>n,fun | n=>n⟩
theorem Tryz.lays106:Go.Proofs.Lays.n106 Tryz.prog Tryz.lays106_ren:={
 mixed:=by kernel_rfl
 f106:=Tryz.func216.trans (aZQ)
 f213:=Tryz.func299.trans (aZQ)
 f265:=Tryz.func346.trans (aZQ)
 t3:=Tryz.underlying3
 a3:=Tryz.isAgg3
 z3:=Tryz.sizeOf3
 v3:=Tryz.zeroValue3
 t9:=Tryz.underlying9
 a9:=Tryz.isAgg9
 z9:=Tryz.sizeOf9
 v9:=Tryz.zeroValue9 }
open Go.RowKit in
theorem Tryz.strings_Compare(a b:ByteArray)(w:World) :
 Calls Tryz.prog 216 #[.string a,.string b] w λe w'=>e = .returned (.int .i64 (Lib.compareBytes a.data.toList b.data.toList))/\w'=w:=Any.strings_Compare Tryz.lays106 a b w
end Go.Proofs
namespace Go.Proofs.YtfnopgdcaanaiaaGreatDoor
open Go.Proofs.Tryz
section
open Go.RowKit
def jo(w:World)(B:Nat):Prop:=0<B/\∀ k:Nat,k<9->eh w 0 (k * 8) (jz (Np.ci k)).toList
theorem jo.keep{w w':World}{B:Nat}(h:jo w B)(hb:Below B w w'):jo w' B:=⟨h.1,λk hk=>(h.2 k hk).keep hb h.1⟩
theorem jo.more{w:World}{B B':Nat}(h:jo w B)(hB:B<=B'):jo w B':=⟨lQ h.1 hB,h.2⟩
def bR(_:World)(_:Nat)(e:List Value)(d:Np.Datum):Prop:=∃ s:ByteArray,s.data.toList=d.text/\s.size<=140737488355328/\e = [.string s,.int .i64 d.n,.int .i64 d.m]
theorem bV:ep bR:=λ_ _ _ _ _ h _=>h
theorem cu:eL bR:=λ_ _ _ _ _ h _=>h
theorem VW{w w':World}(h:w'=w):Below w.heap.size w w':=by rw[h];exact vQ _ _
theorem LE(k ln mn lm mm:Int)(ev si wi:Bool)(s:ByteArray)(hs:s.size<=140737488355328)(n m:Int)(w:World)(t:Bool)(ht:Np.kb ⟨k,ln,mn,lm,mm,ev,si,wi⟩ ⟨s.data.toList,n,m⟩=t) :
 Calls prog 230 #[.agg #[.int .i64 k,.int .i64 ln,.int .i64 mn,.int .i64 lm,.int .i64 mm,.bool ev,.bool si,.bool wi],.agg #[.string s,.int .i64 n,.int .i64 m]] w
  λe w'=>e = .returned (.bool t)/\Below w.heap.size w w':=by
 subst ht;exact aRX k ln mn lm mm ev si wi s hs n m w
def Vr(w1:World)(o:Obj)(r:Np.Rule)(ds:List Np.Datum)(i:Value)(wr:World):Prop:=
 ∃ j:Nat,j<=ds.length/\i = .int .i64 j/\Below (w1.alloc o).heap.size (w1.alloc o) wr/\Np.jI r none ds=Np.jI r (ds.take j).getLast? (ds.drop j)
theorem K5(s:ByteArray)(hs:s.size<=140737488355328)(ty life:Int)(v:Value)(ds:List Np.Datum)(w:World)(hR:jo w w.heap.size)(hd:SlR bR 3 w w.heap.size v ds) :
 Calls prog 152 #[.agg #[.string s,.int .i64 ty,.int .i64 life,v]] w
  λe w'=>e = .returned (.bool (Np.cZ ⟨s.data.toList,ty,life,ds⟩))/\Below w.heap.size w w':=by
 have HR:=jq hR;have HD:=jq hd;obtain⟨A,c,rfl,bq,bM,kZ⟩:=hd;clear hR kZ;have HF:Hid (∀ t:Bool,t=Np.cZ ⟨s.data.toList,ty,life,ds⟩->(.bool t:Value) = .bool (Np.cZ ⟨s.data.toList,ty,life,ds⟩)):=λt ht=>by rw[ht]
 go_enter func152,ntmps152;go_wp2_with fail;refine (nameValid_any _ hs _).mono ?_;rintro e w1 ⟨rfl,hb⟩;have cP:Below w.heap.size w w1:=((vQ _ w).alloc (bQ _) _).trans (hb.mono (by simp));have an:w.heap.size+1<=w1.heap.size:=by have:=hb.size;simpa using this
 have eO:w.heap.size<w1.heap.size:=by omega
 have c0:w1.cell? ⟨w.heap.size,0,none⟩=some (.string s):=by rw[hb.cell (by simp)];go_simp
 have c1:w1.cell? ⟨w.heap.size,1,none⟩=some (.int .i64 ty):=by rw[hb.cell (by simp)];go_simp
 have c2:w1.cell? ⟨w.heap.size,2,none⟩=some (.int .i64 life):=by rw[hb.cell (by simp)];go_simp
 have c3:w1.cell? ⟨w.heap.size,3,none⟩=some (.slice A ds.length c):=by rw[hb.cell (by simp)];go_simp
 have HB:=jq hb;clear hb;by_cases dT:1<=ty/\ty<=8
 ·obtain⟨k,rfl⟩:=Int.eq_ofNat_of_zero_le (by omega:0<=ty);have Zc:k<9:=by omega
  have s9:=(HR.out.keep cP).2 k Zc;have r0:w1.cell? ⟨0,k * 8,none⟩=some (.int .i64 (Np.ci k).text):=s9 0 _ rfl;have r1:w1.cell? ⟨0,k * 8+1,none⟩=some (.int .i64 (Np.ci k).leastN):=s9 1 _ rfl;have r2:w1.cell? ⟨0,k * 8+2,none⟩=some (.int .i64 (Np.ci k).mostN):=s9 2 _ rfl;have r3:w1.cell? ⟨0,k * 8+3,none⟩=some (.int .i64 (Np.ci k).leastM):=s9 3 _ rfl;have r4:w1.cell? ⟨0,k * 8+4,none⟩=some (.int .i64 (Np.ci k).mostM):=s9 4 _ rfl;have r5:w1.cell? ⟨0,k * 8+5,none⟩=some (.bool (Np.ci k).even):=s9 5 _ rfl;have r6:w1.cell? ⟨0,k * 8+6,none⟩=some (.bool (Np.ci k).single):=s9 6 _ rfl;have r7:w1.cell? ⟨0,k * 8+7,none⟩=some (.bool (Np.ci k).wild):=s9 7 _ rfl;clear s9;go_wp2_with (first
   | (go_at_call 228;refine (LL _ _ _ _).mono ?_;rintro e w' ⟨rfl,rfl⟩)
   | (go_at_call 229;refine (Q3 _ hs _).mono ?_;rintro e w' ⟨rfl,rfl⟩))
  all_goals first
   | (go_ret
      go_light;refine⟨ag ?_,by first | exact cP | exact cP.alloc (by omega) _⟩;simp_all [Np.cZ] <;> (intros;omega))
   | skip
  all_goals
   have hv:Np.cZ ⟨s.data.toList,k,life,ds⟩=Np.jI (Np.ci k) none ds:=by
    go_light;simp_all [Np.cZ] <;> (intros;omega)
  rotate_left 3
  all_goals
   have HV:=jq hv;clear hv HF;go_loopw [52] (λi wr=>Vr w1 (Obj.cells (jz (Np.ci k)) 283) (Np.ci k) ds i wr) (λi _=>ds.length - (intOf i).toNat)
   case atStart=>
    refine⟨0,jQ _,rfl,VW ?_,rfl⟩;go_light;simp_all [jz]
   case round=>
    obtain⟨j,hj,rfl,aI,hg⟩:=hrel;have HG:=jq hg;clear hg;by_cases ab:j<ds.length
    ·have Kx:=aI.size;simp only[World.size_alloc] at Kx;have l7:Below w.heap.size w wr:=(cP.alloc (by omega) _).trans (aI.mono (by simp;omega));have Z9:w.heap.size<wr.heap.size:=by omega
     have ah:w1.heap.size<wr.heap.size:=by omega
     have d3:wr.cell? ⟨w.heap.size,3,none⟩=some (.slice A ds.length c):=by rw[aI.cell (by simp;omega)];rw[World.cell?_alloc_lt _ _ _ (by simpa using eO)];exact c3
     have q0:wr.cell? ⟨w1.heap.size,0,none⟩=some (.int .i64 (Np.ci k).text):=by rw[aI.cell (by simp)];exact World.cell?_alloc_new w1 _ _ _
     have q1:wr.cell? ⟨w1.heap.size,1,none⟩=some (.int .i64 (Np.ci k).leastN):=by rw[aI.cell (by simp)];exact World.cell?_alloc_new w1 _ _ _
     have q2:wr.cell? ⟨w1.heap.size,2,none⟩=some (.int .i64 (Np.ci k).mostN):=by rw[aI.cell (by simp)];exact World.cell?_alloc_new w1 _ _ _
     have q3:wr.cell? ⟨w1.heap.size,3,none⟩=some (.int .i64 (Np.ci k).leastM):=by rw[aI.cell (by simp)];exact World.cell?_alloc_new w1 _ _ _
     have q4:wr.cell? ⟨w1.heap.size,4,none⟩=some (.int .i64 (Np.ci k).mostM):=by rw[aI.cell (by simp)];exact World.cell?_alloc_new w1 _ _ _
     have q5:wr.cell? ⟨w1.heap.size,5,none⟩=some (.bool (Np.ci k).even):=by rw[aI.cell (by simp)];exact World.cell?_alloc_new w1 _ _ _
     have q6:wr.cell? ⟨w1.heap.size,6,none⟩=some (.bool (Np.ci k).single):=by rw[aI.cell (by simp)];exact World.cell?_alloc_new w1 _ _ _
     have q7:wr.cell? ⟨w1.heap.size,7,none⟩=some (.bool (Np.ci k).wild):=by rw[aI.cell (by simp)];exact World.cell?_alloc_new w1 _ _ _
     obtain⟨A',c',hA',_,_,bU⟩:=HD.out.keep bV l7
     cases hA'
     obtain⟨b,o,e,rfl,bA,_,hce,sd,uE,uF,rfl⟩:=bU j _ (aQ ab);have e0:wr.cell? ⟨b,o+j * 3,none⟩=some (.string sd):=hce 0 _ rfl;have e1:wr.cell? ⟨b,o+j * 3+1,none⟩=some (.int .i64 ds[j].n):=hce 1 _ rfl;have e2:wr.cell? ⟨b,o+j * 3+2,none⟩=some (.int .i64 ds[j].m):=hce 2 _ rfl;have dK:b<wr.heap.size:=by omega
     have aV:=jq aI;have aG:=jq l7;have GN:=jq bU;have yH:=jq uE;clear hce aI l7 bU uE c0 c1 c2 c3 r0 r1 r2 r3 r4 r5 r6 r7;go_wp2_with fail;have p0:=World.cell?_alloc_new wr #[.string sd,.int .i64 ds[j].n,.int .i64 ds[j].m] 128 0;have p1:=World.cell?_alloc_new wr #[.string sd,.int .i64 ds[j].n,.int .i64 ds[j].m] 128 1;have p2:=World.cell?_alloc_new wr #[.string sd,.int .i64 ds[j].n,.int .i64 ds[j].m] 128 2;have keep:∀ b o,b<wr.heap.size->(wr.alloc (.cells #[.string sd,.int .i64 ds[j].n,.int .i64 ds[j].m] 128)).cell? ⟨b,o,none⟩=wr.cell? ⟨b,o,none⟩:=λb o h=>World.cell?_alloc_lt _ _ _ h;have lh:(wr.alloc (.cells #[.string sd,.int .i64 ds[j].n,.int .i64 ds[j].m] 128)).heap.size=wr.heap.size+1:=World.size_alloc _ _;have fw:Below wr.heap.size wr (wr.alloc (.cells #[.string sd,.int .i64 ds[j].n,.int .i64 ds[j].m] 128)):=(vQ _ _).alloc (bQ _) _;generalize wr.alloc (.cells #[.string sd,.int .i64 ds[j].n,.int .i64 ds[j].m] 128)=wx at p0 p1 p2 keep lh fw |-;have ea:w.heap.size<wx.heap.size:=by omega
     have eC:w1.heap.size<wx.heap.size:=by omega
     have lS:wr.heap.size<wx.heap.size:=by omega
     have uK:b<wx.heap.size:=by omega
     have k9:∀ (g:bk wx) (p:Addr),p.block<wx.heap.size->g.w.cell? p=wx.cell? p:=λg p h=>g.cell p h;have ei:=jq fw;clear fw lh;have B2:(⟨sd.data.toList,ds[j].n,ds[j].m⟩:Np.Datum)=ds[j]:=by rw[yH.out]
     have rW:=jq B2;clear B2;by_cases ta:Np.kb (Np.ci k) ⟨sd.data.toList,ds[j].n,ds[j].m⟩=true
     ·have lB:=jq ta;clear ta;by_cases jM:j=0
      ·subst jM;refine a0Z ?_
       repeat (go_big_quiet_step ((go_at_call 230;exact Calls.grow_of (LE _ _ _ _ _ _ _ _ _ uF _ _ _ true lB.out))))
       refine wpQuiet_nil ?_;rintro _ ⟨g,rfl⟩;go_wp2_with fail;go_roundw
       case rel=>
        go_light;have h1:=Np.OQ (r:=Np.ci k) (aQ ab) (by rw[<-rW.out];exact lB.out);exact⟨1,ab,by go_num,aV.out.trans ((ei.out.trans (g.below.adZ)).mono (by simp;omega)),by rw[<-h1];exact HG.out⟩
       case measure=>simp[intOf] <;> omega
      ·obtain⟨i,rfl⟩:∃ i,j=i+1:=⟨j - 1,by omega⟩
       try (exfalso;omega)
       all_goals
        obtain⟨b',o',e',pY,BT,_,kr,sq,kC,ZW,rfl⟩:=GN.out i _ (aQ (by omega))
        cases pY
        have f0:wr.cell? ⟨b,o+i * 3,none⟩=some (.string sq):=kr 0 _ rfl;have f1:wr.cell? ⟨b,o+i * 3+1,none⟩=some (.int .i64 (ds[i]'(by omega)).n):=kr 1 _ rfl;have f2:wr.cell? ⟨b,o+i * 3+2,none⟩=some (.int .i64 (ds[i]'(by omega)).m):=kr 2 _ rfl;have B0:(⟨sq.data.toList,(ds[i]'(by omega)).n,(ds[i]'(by omega)).m⟩:Np.Datum)=ds[i]'(by omega):=by rw[kC]
        have GH:=jq B0;clear kr kC B0;refine a0Z ?_
        repeat (go_big_quiet_step (first
         | (go_at_call 230;exact Calls.grow_of (LE _ _ _ _ _ _ _ _ _ uF _ _ _ true lB.out))
         | (go_at_call 231;exact Calls.grow_of (WB _ _ _ _ _ _ _))))
        refine wpQuiet_nil ?_;rintro _ ⟨g,rfl⟩;have h1:=Np.OR (r:=Np.ci k) (aQ (by omega:i<ds.length)) (aQ ab) (by rw[<-rW.out];exact lB.out);rw[<-rW.out,<-GH.out] at h1;have H1:=jq h1;clear h1;go_wp2_with fail
        ·go_ret;refine⟨ag ?_,aG.out.trans ((ei.out.trans (g.below.adZ)).adZ)⟩;rw[HV.out,HG.out,H1.out,Qc (by omega)]
        ·go_roundw
         case rel=>
          go_light;exact⟨i+1+1,ab,by go_num,aV.out.trans ((ei.out.trans (g.below.adZ)).mono (by simp;omega)),by rw[HG.out,H1.out,Qb (by omega)]⟩
         case measure=>simp[intOf] <;> omega
     ·have CM:Np.kb (Np.ci k) ⟨sd.data.toList,ds[j].n,ds[j].m⟩=false:=by simpa using ta
      have lB:=jq CM;clear ta CM;refine a0Z ?_
      repeat (go_big_quiet_step ((go_at_call 230;exact Calls.grow_of (LE _ _ _ _ _ _ _ _ _ uF _ _ _ false lB.out))))
      refine wpQuiet_nil ?_;rintro _ ⟨g,rfl⟩;go_wp2_with fail;go_ret;refine⟨ag ?_,aG.out.trans ((ei.out.trans (g.below.adZ)).adZ)⟩;rw[HV.out,HG.out,Np.OP (aQ ab) (by rw[<-rW.out];exact lB.out)]
    ·go_wp2_with fail;go_ret;refine⟨ag ?_,(cP.alloc (by omega) _).trans (aI.mono (by simp;omega))⟩;rw[HV.out,HG.out,List.drop_eq_nil_of_le (by omega)];rfl
 ·have hv:Np.cZ ⟨s.data.toList,ty,life,ds⟩=false:=by
   simp only[Np.cZ]
   have:(decide (1<=ty)&&decide (ty<=8))=false:=by simp;omega
   rw[this];simp
  have HV:=jq hv;clear hv;have bcJ:(decide (1<=ty)&&decide (ty<=8))=false:=by simp;omega
  go_wp2_with (first
   | (go_at_call 228;refine (LL _ _ _ _).mono ?_;rintro e w' ⟨rfl,rfl⟩))
  all_goals
   go_ret;exact⟨ag HV.out.symm,cP⟩
end
end Go.Proofs.YtfnopgdcaanaiaaGreatDoor
