/- No condition. -/
import Derived.Lib.Hide
import Derived.WalkSpells
import Derived.WalkLawsBesides
import Derived.BigGuardPart
import Derived.StillTailTactics
import Derived.Deep.Light
import Derived.Test.YtfnopgdcaanaiaaGreatDoorProg
import Derived.RangeFuncNested
import Derived.RangeFuncBound
import Derived.Shelf.RegionOpen
import Derived.OwnWalkIn
import Derived.LoopNIn
import Derived.LoopIn
import Derived.Shelf.Small.Strs
import Derived.Laws.EntriesVeiled
import Derived.Lib.ConvBytes
import Derived.Shelf.SlicesE.Clone
import Derived.Shelf.SlSortCmp.WholeK
set_option linter.all false
set_option maxRecDepth 100000
set_option maxHeartbeats 8000000
namespace Go.Proofs.YtfnopgdcaanaiaaGreatDoor
open Go.Proofs.Tryz
section
open Go.RowKit
theorem jq{p:Prop}(h:p):Hid p:=Lib.hid h
theorem cl{B:Nat}{w w':World}(h:Below B w w'){b o:Nat}(hb:b<B):w'.cell? ⟨b,o,none⟩=w.cell? ⟨b,o,none⟩:=h.cell hb
theorem aQ.{u}{α:Type u}{l:List α}{i:Nat}(h:i<l.length):l[i]?=some l[i]:=List.getElem?_eq_getElem h
theorem bQ(n:Nat):n≤n:=Nat.le_refl n
theorem cQ.{u}{α:Type u}{i:Nat}{a:α}{l:List α}:l[i]?=some a↔∃ h:i<l.length,l[i]=a:=List.getElem?_eq_some_iff
theorem dQ(b:ByteArray):b.toList=b.data.toList:=ByteArray.toList_eq b
theorem eQ.{u}{α:Type u}{i:Nat}{b:α}{xs:Array α}:xs[i]?=some b↔∃ h:i<xs.size,xs[i]=b:=Array.getElem?_eq_some_iff
theorem fQ.{u}{α:Type u}{i:Nat}{l:List α}(h:i<l.length):l.take (i+1)=l.take i++[l[i]]:=List.take_succ_eq_append_getElem h
theorem gQ.{u}{α:Type u}{l:List α}{i:Nat}{a:α}(e:l[i]?=some a):a∈l:=List.mem_of_getElem? e
theorem Qh.{u}{α:Type u}{a:α}:¬a∈([]:List α):=List.not_mem_nil
theorem iQ{w w':World}{a:Addr}(h:w'.heap[a.block]?=w.heap[a.block]?):w'.cell? a=w.cell? a:=World.cell?_of_block h
theorem jQ(n:Nat):0≤n:=Nat.zero_le n
theorem kQ.{u}{α:Type u}{i:Nat}{l:List α}(h:l.length≤i):l.take i=l:=List.take_of_length_le h
theorem lQ{n m k:Nat}:n<m→m≤k→n<k:=Nat.lt_of_lt_of_le
theorem mQ.{u}{α:Type u}(y:α){a:α}{l:List α}:a∈l→a∈y::l:=List.mem_cons_of_mem y
theorem nQ.{u}{α:Type u}{a:α}{l:List α}:a∈l↔∃ (i:Nat) (h:i<l.length),l[i]=a:=List.mem_iff_getElem
theorem oQ.{u}{α:Type u}{l₁ l₂:List α}{i:Nat}:l₁.length≤i→(l₁++l₂)[i]?=l₂[i-l₁.length]?:=List.getElem?_append_right
theorem pQ.{u}{α:Type u}{xs:Array α}{i:Nat}(h:i<xs.size):xs[i]?=some xs[i]:=Array.getElem?_eq_getElem h
theorem rQ.{u}{α:Type u}{l:List α}:l.length=0→l=[]:=List.eq_nil_of_length_eq_zero
theorem sQ.{u}{α:Type u}{i:Nat}{l:List α}(h:i<l.length):l.drop i=l[i]::l.drop (i+1):=List.drop_eq_getElem_cons h
theorem tQ{p:Prop}[Decidable p]:¬p→decide p=false:=decide_eq_false
theorem uQ{p:Prop}[Decidable p]:p→decide p=true:=decide_eq_true
theorem vQ(B:Nat)(w:World):Below B w w:=Below.refl B w
theorem wQ(w:World)(a:Addr)(u:Value)(k:Nat)(h:k≠a.block):(w.setCell a u).heap[k]?=w.heap[k]?:=Below.heap_setCell w a u k h
theorem xQ(w:World)(a b:Addr)(v:Value)(h:a≠b):(w.setCell a v).cell? b=w.cell? b:=World.cell?_setCell_other w a b v h
theorem yQ{n m k:Nat}:n≤m→m≤k→n≤k:=Nat.le_trans
theorem zQ{r k:Nat}{o:Obj}{w:World}(h:k≠r):(w.putObj r o).heap[k]?=w.heap[k]?:=World.putObj_heap_other h
theorem Qa{p:Prop}[Decidable p]:(decide p=true)=p:=decide_eq_true_eq
theorem Qb.{u}{c:Prop}{h:Decidable c}(hc:c){α:Sort u}{t e:α}:ite c t e=t:=if_pos hc
theorem Qc.{u}{c:Prop}{h:Decidable c}(hn:¬c){α:Sort u}{t e:α}:ite c t e=e:=if_neg hn
theorem Qd.{u,v}{α:Sort u}{β:Sort v}{a b:α}(f:α->β)(h:a=b):f a=f b:=congrArg f h
theorem aeK{B:Nat}{w w':World}(h:Below B w w'){b o:Nat}{v:Option Value}(e:w.cell? ⟨b,o,none⟩=v)(hb:b<B:=by omega):w'.cell? ⟨b,o,none⟩=v:=(h.cell hb).trans e
theorem aeX{n m:Nat}{a b c:World}(h:Hid (Below n a b))(k:Below m b c)(e:n≤m:=by omega):Hid (Below n a c):=jq (h.out.trans (k.mono e))
theorem afJ.{u}{α:Sort u}(e:α):∃ r,r=e:=⟨_,rfl⟩
abbrev ahZ(n:Nat)(w:World)(v:Value)(e:Ending)(w':World):Prop:=e = .returned v/\Below n w w'
abbrev ahY(w:World)(v:Value)(e:Ending)(w':World):Prop:=e = .returned v/\w=w'
abbrev aiQ(α:Type):=World->Nat->List Value->α->Prop
theorem afZ.{u}{α:Sort u}(e:α):∃ r,e=r:=⟨_,rfl⟩
theorem _root_.Go.RowKit.Below.afK{n m:Nat}{a b:World}(h:Below m a b)(e:n≤m:=by omega):Below n a b:=h.mono e
theorem afY{p:Prop}[Decidable p](h:¬p:=by omega):decide p=false:=decide_eq_false h
theorem agQ{p:Prop}[Decidable p](h:p:=by omega):decide p=true:=decide_eq_true h
theorem agZ.{u}{α:Type u}{a b:α}(h:a=b:=by kernel_rfl):some a=some b:=congrArg some h
theorem blAl{w:World}{o:Obj}:Below w.heap.size w (w.alloc o):=(Below.refl _ _).alloc (Nat.le_refl _) _
theorem _root_.Go.RowKit.Below.blSe{B:Nat}{a w:World}(h:Below B a w){p:Addr}(u:Value)(hp:B≤p.block:=by dsimp only;omega):Below B a (w.setCell p u):=h.setCell hp u
theorem blW(w:World):Hid (∀ o,Below w.heap.size w (w.alloc o)):=jq fun o=>blAl
theorem kNN(k:Nat):(0:Int)≤(k:Int):=by omega
theorem cGet9{w:World}{b:Nat}{v0 v1 v2 v3 v4 v5 v6 v7 v8:Value}(h:∀ (i:Nat) v,[v0,v1,v2,v3,v4,v5,v6,v7,v8][i]?=some v→w.cell? ⟨b,i,none⟩=some v):w.cell? ⟨b,0,none⟩=some v0∧w.cell? ⟨b,1,none⟩=some v1∧w.cell? ⟨b,2,none⟩=some v2∧w.cell? ⟨b,3,none⟩=some v3∧w.cell? ⟨b,4,none⟩=some v4∧w.cell? ⟨b,5,none⟩=some v5∧w.cell? ⟨b,6,none⟩=some v6∧w.cell? ⟨b,7,none⟩=some v7∧w.cell? ⟨b,8,none⟩=some v8:=⟨h 0 _ rfl,h 1 _ rfl,h 2 _ rfl,h 3 _ rfl,h 4 _ rfl,h 5 _ rfl,h 6 _ rfl,h 7 _ rfl,h 8 _ rfl⟩
theorem cGet7{w:World}{b:Nat}{v0 v1 v2 v3 v4 v5 v6:Value}(h:∀ (i:Nat) v,[v0,v1,v2,v3,v4,v5,v6][i]?=some v→w.cell? ⟨b,i,none⟩=some v):w.cell? ⟨b,0,none⟩=some v0∧w.cell? ⟨b,1,none⟩=some v1∧w.cell? ⟨b,2,none⟩=some v2∧w.cell? ⟨b,3,none⟩=some v3∧w.cell? ⟨b,4,none⟩=some v4∧w.cell? ⟨b,5,none⟩=some v5∧w.cell? ⟨b,6,none⟩=some v6:=⟨h 0 _ rfl,h 1 _ rfl,h 2 _ rfl,h 3 _ rfl,h 4 _ rfl,h 5 _ rfl,h 6 _ rfl⟩
theorem cRow4(w:World)(b:Nat)(v0 v1 v2 v3:Value)(h:w.cell? ⟨b,0,none⟩=some v0∧w.cell? ⟨b,1,none⟩=some v1∧w.cell? ⟨b,2,none⟩=some v2∧w.cell? ⟨b,3,none⟩=some v3):w.cell? ⟨b,0,none⟩=some v0∧w.cell? ⟨b,1,none⟩=some v1∧w.cell? ⟨b,2,none⟩=some v2∧w.cell? ⟨b,3,none⟩=some v3:=h
theorem cRow5(w:World)(b:Nat)(v0 v1 v2 v3 v4:Value)(h:w.cell? ⟨b,0,none⟩=some v0∧w.cell? ⟨b,1,none⟩=some v1∧w.cell? ⟨b,2,none⟩=some v2∧w.cell? ⟨b,3,none⟩=some v3∧w.cell? ⟨b,4,none⟩=some v4):w.cell? ⟨b,0,none⟩=some v0∧w.cell? ⟨b,1,none⟩=some v1∧w.cell? ⟨b,2,none⟩=some v2∧w.cell? ⟨b,3,none⟩=some v3∧w.cell? ⟨b,4,none⟩=some v4:=h
theorem cRow6(w:World)(b:Nat)(v0 v1 v2 v3 v4 v5:Value)(h:w.cell? ⟨b,0,none⟩=some v0∧w.cell? ⟨b,1,none⟩=some v1∧w.cell? ⟨b,2,none⟩=some v2∧w.cell? ⟨b,3,none⟩=some v3∧w.cell? ⟨b,4,none⟩=some v4∧w.cell? ⟨b,5,none⟩=some v5):w.cell? ⟨b,0,none⟩=some v0∧w.cell? ⟨b,1,none⟩=some v1∧w.cell? ⟨b,2,none⟩=some v2∧w.cell? ⟨b,3,none⟩=some v3∧w.cell? ⟨b,4,none⟩=some v4∧w.cell? ⟨b,5,none⟩=some v5:=h
theorem cRow7(w:World)(b:Nat)(v0 v1 v2 v3 v4 v5 v6:Value)(h:w.cell? ⟨b,0,none⟩=some v0∧w.cell? ⟨b,1,none⟩=some v1∧w.cell? ⟨b,2,none⟩=some v2∧w.cell? ⟨b,3,none⟩=some v3∧w.cell? ⟨b,4,none⟩=some v4∧w.cell? ⟨b,5,none⟩=some v5∧w.cell? ⟨b,6,none⟩=some v6):w.cell? ⟨b,0,none⟩=some v0∧w.cell? ⟨b,1,none⟩=some v1∧w.cell? ⟨b,2,none⟩=some v2∧w.cell? ⟨b,3,none⟩=some v3∧w.cell? ⟨b,4,none⟩=some v4∧w.cell? ⟨b,5,none⟩=some v5∧w.cell? ⟨b,6,none⟩=some v6:=h
theorem cRow9(w:World)(b:Nat)(v0 v1 v2 v3 v4 v5 v6 v7 v8:Value)(h:w.cell? ⟨b,0,none⟩=some v0∧w.cell? ⟨b,1,none⟩=some v1∧w.cell? ⟨b,2,none⟩=some v2∧w.cell? ⟨b,3,none⟩=some v3∧w.cell? ⟨b,4,none⟩=some v4∧w.cell? ⟨b,5,none⟩=some v5∧w.cell? ⟨b,6,none⟩=some v6∧w.cell? ⟨b,7,none⟩=some v7∧w.cell? ⟨b,8,none⟩=some v8):w.cell? ⟨b,0,none⟩=some v0∧w.cell? ⟨b,1,none⟩=some v1∧w.cell? ⟨b,2,none⟩=some v2∧w.cell? ⟨b,3,none⟩=some v3∧w.cell? ⟨b,4,none⟩=some v4∧w.cell? ⟨b,5,none⟩=some v5∧w.cell? ⟨b,6,none⟩=some v6∧w.cell? ⟨b,7,none⟩=some v7∧w.cell? ⟨b,8,none⟩=some v8:=h
def bN(w:World):Type:={ x:World // Below w.heap.size w x }
def bN.w{w:World}(g:bN w):World:=g.1
theorem bN.below{w:World}(g:bN w):Below w.heap.size w g.w:=g.2
instance (w:World):Nonempty (bN w):=⟨⟨w,vQ _ _⟩⟩
theorem bN.cell{w:World}(g:bN w)(p:Addr)(h:p.block<w.heap.size):g.w.cell? p=w.cell? p:=g.2.cell h
theorem bN.frozen{w:World}(g:bN w)(p:Addr)(h:p.block<w.heap.size):g.w.frozen? p=w.frozen? p:=g.2.frozen h
theorem bN.size{w:World}(g:bN w):w.heap.size<=g.w.heap.size:=g.2.size
def zX(w:World)(w':World):Prop:=∃ g:bN w,w'=g.w
theorem zX.of{w w':World}(h:Below w.heap.size w w'):zX w w':=⟨⟨w',h⟩,rfl⟩
theorem Calls.grow_of{P:Program}{f:FuncId}{args:Array Value}{w:World}{g:bN w}{v:Value}
 (h:Calls P f args g.w λe w'=>e = .returned v/\Below g.w.heap.size g.w w'):Calls P f args g.w λe w''=>e = .returned v/\∃ g':bN w,w''=g'.w:=
 h.mono λ_ w' ⟨he,hm⟩=>⟨he,⟨w',g.2.trans (hm.mono g.2.size)⟩,rfl⟩
section
variable {P:Program}
theorem eM{id:Nat}{Q:Exit->Act->World->Prop}{a:Act}{w:World}{l:List Oper}(hm:P.follows .mixedOrders=true)(hB:Region.lexB .any l.toArray=true)
 (h:wpQuiet P l.toArray (λw'=>∃ g:bN w,w'=g.w) (λa'=>∀ w',(∃ g:bN w,w'=g.w)->Q .normal a' w') l a):(Code.region id l.toArray true).wp P Q a w:=
 wp_region_quiet (C:=λw'=>∃ g:bN w,w'=g.w) hm hB ⟨⟨_,(vQ w.heap.size w).drew⟩,rfl⟩ (by simpa using h)
end
theorem tD{W w1:World}(hb:Below W.heap.size W w1):(∀ b o,b<W.heap.size->w1.cell? ⟨b,o,none⟩=W.cell? ⟨b,o,none⟩)/\(∀ b o,b<W.heap.size->w1.frozen? ⟨b,o,none⟩=W.frozen? ⟨b,o,none⟩):=
 ⟨λb o h=>hb.cell (p:=⟨b,o,none⟩) h,λb o h=>hb.frozen (p:=⟨b,o,none⟩) h⟩
theorem ag{a b:Bool}(h:a=b):Ending.returned (.bool a) = .returned (.bool b):=by rw[h]
theorem iB{k:IntKind}{a b:Int}(h:a=b):Ending.returned (.int k a) = .returned (.int k b):=by rw[h]
theorem bj(s:ByteArray):s.data.toList.length=s.size:=rfl
theorem yF(s:ByteArray)(k:Nat)(h:k<s.size):s.data.toList[k]?=some s[k]:=by
 rw[aQ (by rw[bj];exact h)];rfl
theorem B0(s:ByteArray)(h:0<s.size):s.data.toList.head?=some s[0]:=by
 rw[List.head?_eq_getElem?];exact yF s 0 h
theorem Fv(s:ByteArray)(h:s.size - 1<s.size):s.data.toList.getLast?=some s[s.size - 1]:=by
 rw[List.getLast?_eq_getElem?,bj];exact yF s _ h
theorem Lz(s:ByteArray)(k:Nat)(h:k<s.size):s.data.toList.take (k+1)=s.data.toList.take k ++ [s[k]]:=by
 rw[fQ (by simpa using h)];rfl
theorem Gg(s:ByteArray)(k:Nat)(h:s.size<=k):s.data.toList.take k=s.data.toList:=kQ (by rw[bj];exact h)
theorem oU(c:UInt8)(n:Nat)(hn:n<256):(c == UInt8.ofNat n)=decide ((c.toNat:Int)=n):=by
 rw[Bool.eq_iff_iff];simp only[beq_iff_eq,Qa];constructor
 ·rintro rfl;simp;omega
 ·intro h;apply UInt8.toNat_inj.1;simp;omega
theorem zL(c:UInt8):0<=(c.toNat:Int)/\(c.toNat:Int)<=255:=by have:=UInt8.toNat_lt c;omega
theorem iC{s t:ByteArray}(h:s.data.toList=t.data.toList):s=t:=by
 cases s;cases t;simp only at h |-;congr 1;exact Array.toList_inj.1 h
theorem I4(s:ByteArray)(i j:Nat):(s.extract i j).data.toList=(s.data.toList.take j).drop i:=by
 rw[ByteArray.data_extract];simp[Array.toList_extract,List.extract_eq_take_drop,List.drop_take]
theorem I3(s:ByteArray)(i:Nat):(s.extract i s.size).data.toList=s.data.toList.drop i:=by
 rw[I4,kQ (by rw[bj];exact bQ _)]
theorem I5(s:ByteArray)(j:Nat):(s.extract 0 j).data.toList=s.data.toList.take j:=by rw[I4];rfl
theorem Um{P:Program}{id:Nat}{Q:Exit->Act->World->Prop}{a:Act}{w:World}{l:List Oper}(n:Nat)(hm:P.follows .mixedOrders=true)(hB:Region.lexTailB .any l.toArray n=true)
 (h:wpStill P l.toArray w.drew (λa'=>wpList P l.toArray Q (l.drop n) a' w.drew) (l.take n) a):(Code.region id l.toArray true).wp P Q a w:=wp_region_still_tail n hm hB h
theorem Calls.still_same{P:Program}{f:FuncId}{args:Array Value}{w:World}{v:Value}(h:Calls P f args w λe w'=>e = .returned v/\w=w'):Calls P f args w λe w''=>e = .returned v/\w''=w:=
 h.mono λ_ _ ⟨he,hw⟩=>⟨he,hw.symm⟩
def cA(w:World)(b o:Nat)(e:List Value):Prop:=∀ j v,e[j]?=some v->w.cell? ⟨b,o+j,none⟩=some v
theorem cA.keep{w w':World}{b o:Nat}{e:List Value}{B:Nat}(h:cA w b o e)(hb:Below B w w')(hB:b<B):cA w' b o e:=
 λj v hj=>(hb.cell (p:=⟨b,o+j,none⟩) hB).trans (h j v hj)
def SlR{α:Type}(R:aiQ α)(sz:Nat)(w:World)(B:Nat)(v:Value)(xs:List α):Prop:=
 ∃ (A:Option Addr) (c:Nat),v = .slice A xs.length c/\xs.length<=c/\xs.length<=140737488355328/\∀ i x,xs[i]?=some x->∃ b o e,A=some ⟨b,o,none⟩/\b<B/\e.length=sz/\cA w b (o+i * sz) e/\R w B e x
def dl{α:Type}(R:aiQ α):Prop:=∀ w w' B e x,R w B e x->Below B w w'->R w' B e x
theorem SlR.keep{α:Type}{R:aiQ α}{sz:Nat}{w w':World}{B:Nat}{v:Value}{xs:List α}(hR:dl R)(h:SlR R sz w B v xs)(hb:Below B w w'):SlR R sz w' B v xs:=by
 obtain⟨A,c,hv,hc,hl,he⟩:=h;refine⟨A,c,hv,hc,hl,λi x hx=>?_⟩;obtain⟨b,o,e,hA,hB,bL,hce,hr⟩:=he i x hx;exact⟨b,o,e,hA,hB,bL,hce.keep hb hB,hR _ _ _ _ _ hr hb⟩
def dy{α:Type}(R:aiQ α):Prop:=∀ w B B' e x,R w B e x->B<=B'->R w B' e x
theorem SlR.more{α:Type}{R:aiQ α}{sz:Nat}{w:World}{B B':Nat}{v:Value}{xs:List α}(hR:dy R)(h:SlR R sz w B v xs)(hB:B<=B'):SlR R sz w B' v xs:=by
 obtain⟨A,c,hv,hc,hl,he⟩:=h;refine⟨A,c,hv,hc,hl,λi x hx=>?_⟩;obtain⟨b,o,e,hA,hb,bL,hce,hr⟩:=he i x hx;exact⟨b,o,e,hA,by omega,bL,hce,hR _ _ _ _ _ hr hB⟩
theorem agY{P:Program}{id:Nat}{Q:Exit->Act->World->Prop}{a:Act}{w:World}{l:List Oper}(h:wpQuiet P l.toArray (λw'=>∃ g:bN w,w'=g.w) (λa'=>∀ w',(∃ g:bN w,w'=g.w)->Q .normal a' w') l a)(hm:P.follows .mixedOrders=true:=by kernel_rfl)(hB:Region.lexB .any l.toArray=true:=by kernel_rfl):(Code.region id l.toArray true).wp P Q a w:=eM hm hB h
end
namespace Np
def q9(c:UInt8):Bool:=97<=c&&c<=122
def nL(c:UInt8):Bool:=48<=c&&c<=57
def mI(c:UInt8):Bool:=q9 c||nL c||c == 45
def bX(l:List UInt8):Bool:=decide (1<=l.length)&&decide (l.length<=12)&&!(l.head? == some 45)&&!(l.getLast? == some 45)&&l.all mI
def IH(l:List UInt8)(c:UInt8)(r:Int):Prop:=(r = -1/\c∉l)\/∃ a b,l=a++c::b/\c∉b/\r=a.length
def bl:List UInt8->List (List UInt8)
 | []=>[[]]
 | c::r=>if c=46 then []::bl r else match bl r with
   | x::xs=>(c::x)::xs
   | []=>[[c]]
theorem qf(l:List UInt8):bl l≠[]:=by
 cases l with
 | nil=>simp[bl]
 | cons c r=>
  unfold bl;split
  ·simp
  ·split<;>simp
theorem sZ{l:List UInt8}(h:46∉l):bl l = [l]:=by
 induction l with
 | nil=>rfl
 | cons c r ih=>
  have h1:c≠46:=λe=>h (by simp[e]);have h2:46∉r:=λe=>h (by simp[e]);unfold bl;rw[Qc h1,ih h2]
theorem xC(a b:List UInt8):bl (a++46::b)=bl a++bl b:=by
 induction a with
 | nil=>simp[bl]
 | cons c r ih=>
  rw[List.cons_append];by_cases h:c=46
  ·rw[bl,Qb h,bl,Qb h,ih];rfl
  ·rw[bl,Qc h,bl,Qc h,ih];have hne:=qf r
   cases hr:bl r with
   | nil=>exact absurd hr hne
   | cons x xs=>rfl
def bI(l:List UInt8):List (List UInt8):=if l = [46] then [] else (bl l).reverse
def fl:List (List UInt8)->Nat->Bool->Bool
 | [],_,_=>true
 | x::xs,n,wild=>if wild||decide (8<n+1) then false else if x = [42] then fl xs (n+1) true else if bX x then fl xs (n+1) false else false
def al(l:List UInt8):Bool:=if l = [46] then true else if 60<l.length then false else fl (bl l).reverse 0 false
theorem Ls{l y:List UInt8}(h:y∈bl l):y.length<=l.length:=by
 induction l generalizing y with
 | nil=>simp[bl] at h;subst h;simp
 | cons c r ih=>
  unfold bl at h;split at h
  ·rcases List.mem_cons.1 h with e | e
   ·subst e;simp
   ·have:=ih e;simp;omega
  ·split at h
   ·rename_i x xs hx;rcases List.mem_cons.1 h with e | e
    ·subst e;have:=ih (y:=x) (by rw[hx];simp);simp;omega
    ·have:=ih (y:=y) (by rw[hx];simp[e]);simp;omega
   ·simp at h;subst h;simp
theorem Bi{l y:List UInt8}(h:y∈bI l):y.length<=l.length:=by
 unfold bI at h;split at h
 ·cases h
 ·exact Ls (List.mem_reverse.1 h)
def ot(c:UInt8):Bool:=q9 c||nL c||c == 32
def jT(l:List UInt8):Bool:=decide (1<=l.length)&&decide (l.length<=40)&&!(l.head? == some 32)&&!(l.getLast? == some 32)&&l.all ot
def eH(l:List UInt8):Bool:=l.head? == some 42
structure Rule where
 text:Int
 leastN:Int
 mostN:Int
 leastM:Int
 mostM:Int
 even:Bool
 single:Bool
 wild:Bool
structure Datum where
 text:List UInt8
 n:Int
 m:Int
deriving DecidableEq
def xF(k:Int)(l:List UInt8):Bool:=if k=1 then al l&&!eH l else if k=2 then al l else if k=3 then jT l else l == []
def jV(r:Rule)(d:Datum):Bool:=
 (decide (r.leastN<=d.n)&&decide (d.n<=r.mostN))&&(decide (r.leastM<=d.m)&&decide (d.m<=r.mostM))&&!(r.even&&(d.n.tmod 2 != 0))&&xF r.text d.text
def cE(a b:List UInt8):Int:=if Go.Op.bytesLess a b then -1 else if a=b then 0 else 1
def cL(a b:Int):Int:=if a<b then -1 else if b<a then 1 else 0
def qH(a b:Datum):Int:=if cE a.text b.text≠0 then cE a.text b.text else if cL a.n b.n≠0 then cL a.n b.n else cL a.m b.m
def rules:List Rule:=[⟨0,0,0,0,0,false,false,false⟩,⟨0,1,1000000,0,0,false,false,true⟩,⟨1,0,0,0,0,false,false,false⟩,⟨1,0,0,0,0,false,true,false⟩,⟨0,0,65535,0,100000,false,true,false⟩,
 ⟨3,0,0,0,0,false,false,true⟩,⟨0,1,1000000,1,3,false,false,false⟩,⟨0,1,1000000,1,3,false,false,false⟩,⟨2,2,510,0,0,true,false,true⟩]
def ca(k:Int):Rule:=rules.getD k.toNat ⟨0,0,0,0,0,false,false,false⟩
structure DSet where
 name:List UInt8
 type:Int
 life:Int
 data:List Datum
deriving DecidableEq
def jf(r:Rule):Option Datum->List Datum->Bool
 | _,[]=>true
 | p,d::ds=>jV r d&&(match p with | none=>true | some q=>decide (qH q d<0))&&jf r (some d) ds
def dT(s:DSet):Bool:=
 al s.name&&(decide (1<=s.type)&&decide (s.type<=8))&&(decide (0<=s.life)&&decide (s.life<=100000))&&(decide (1<=s.data.length)&&decide (s.data.length<=8)) &&
 !((ca s.type).single&&decide (s.data.length≠1))&&!(eH s.name&&!(ca s.type).wild)&&jf (ca s.type) none s.data
theorem Pp{r:Rule}{p:Option Datum}{ds:List Datum}{j:Nat}{d:Datum}(hd:ds[j]?=some d)(h:jV r d=false):jf r p (ds.drop j)=false:=by
 rw[sQ (cQ.1 hd).1,(cQ.1 hd).2];simp[jf,h]
theorem Pq{r:Rule}{ds:List Datum}{d:Datum}(hd:ds[0]?=some d)(h:jV r d=true):jf r (ds.take 0).getLast? (ds.drop 0)=jf r (ds.take 1).getLast? (ds.drop 1):=by
 cases ds with
 | nil=>simp at hd
 | cons x r=>simp at hd;subst hd;simp[jf,h]
theorem Pr{r:Rule}{ds:List Datum}{j:Nat}{q d:Datum}(hq:ds[j]?=some q)(hd:ds[j+1]?=some d)(h:jV r d=true) :
 jf r (ds.take (j+1)).getLast? (ds.drop (j+1))=if qH q d<0 then jf r (ds.take (j+1+1)).getLast? (ds.drop (j+1+1)) else false:=by
 have h1:=(cQ.1 hq);have h2:=(cQ.1 hd);rw[sQ h2.1,h2.2,fQ h1.1,h1.2,fQ h2.1,h2.2];simp only[List.getLast?_append,List.getLast?_singleton,Option.some_or,jf,h];split<;>rename_i hc<;>simp[hc]
end Np
section
open Go.RowKit
theorem Sj(c:UInt8):Np.mI c=decide ((97<=(c.toNat:Int)/\(c.toNat:Int)<=122)\/(48<=(c.toNat:Int)/\(c.toNat:Int)<=57)\/(c.toNat:Int)=45):=by
 have h:=oU c 45 (by decide);unfold Np.mI Np.q9 Np.nL;rw[show (45:UInt8)=UInt8.ofNat 45 from rfl,h,Bool.eq_iff_iff];simp[UInt8.le_iff_toNat_le];omega
theorem aIK(s:ByteArray)(h:(s.size:Int)<1):Np.bX s.data.toList=false:=by
 have:¬ 1<=s.size:=by omega
 simp[Np.bX,this]
theorem aIX(s:ByteArray)(h:12<(s.size:Int)):Np.bX s.data.toList=false:=by
 have:¬ s.size<=12:=by omega
 simp[Np.bX,this]
theorem aIY(s:ByteArray)(h0:0<s.size)(h:(s[0].toNat:Int)=45):Np.bX s.data.toList=false:=by
 have e:=oU s[0] 45 (by decide);rw[uQ (by simpa using h)] at e;have e2:s[0]=(45:UInt8):=by simpa using e
 simp[Np.bX,B0 s h0,e2]
theorem aJQ(s:ByteArray)(h0:s.size - 1<s.size)(h:(s[s.size - 1].toNat:Int)=45):Np.bX s.data.toList=false:=by
 have e:=oU s[s.size - 1] 45 (by decide);rw[uQ (by simpa using h)] at e;have e2:s[s.size - 1]=(45:UInt8):=by simpa using e
 simp[Np.bX,Fv s h0,e2]
theorem aJZ(s:ByteArray)(k:Nat)(hk:k<s.size)(h:Np.mI s[k]=false):Np.bX s.data.toList=false:=by
 have:s.data.toList.all Np.mI=false:=by
  rw[List.all_eq_false];exact⟨s[k],by rw[<-cQ.1 (yF s k hk) |>.2];exact List.getElem_mem _,by simp[h]⟩
 simp[Np.bX,this]
theorem aJJ(s:ByteArray)(h1:1<=s.size)(h2:s.size<=12)(h3:¬ (s[0].toNat:Int)=45)(h4:¬ (s[s.size - 1].toNat:Int)=45)(h5:s.data.toList.all Np.mI=true):Np.bX s.data.toList=true:=by
 have e:=oU s[0] 45 (by decide);have e':=oU s[s.size - 1] 45 (by decide);rw[tQ (by simpa using h3)] at e;rw[tQ (by simpa using h4)] at e';have e2:¬ s[0]=(45:UInt8):=by simpa using e
 have e3:¬ s[s.size - 1]=(45:UInt8):=by simpa using e'
 simp[Np.bX,Fv s (by omega),B0 s (by omega),e2,e3,h5,h1,h2]
theorem IM(s:ByteArray)(k:Nat)(h:k<s.size)(p:UInt8->Bool)(h1:(s.data.toList.take k).all p=true)(h2:p s[k]=true):(s.data.toList.take (k+1)).all p=true:=by
 rw[Lz s k h,List.all_append,h1];simp[h2]
theorem CR(s:ByteArray)(hs:s.size<=140737488355328)(w:World) :
 Calls prog 245 #[.string s] w (ahY w (.bool (Np.bX s.data.toList))):=by
 go_enter func245,ntmps245;go_wp2
 ·go_ret;exact⟨ag (aIK s ‹_›).symm,rfl⟩
 ·go_ret;exact⟨ag (aIX s ‹_›).symm,rfl⟩
 ·go_ret;exact⟨ag (aIY s ‹_› ‹_›).symm,rfl⟩
 ·have h:((s[s.size - 1].toNat:Int) == 45)=true:=by assumption
  go_ret;exact⟨ag (aJQ s (by omega) (by simpa using h)).symm,rfl⟩
 ·have h1:1<=(s.size:Int):=by assumption
  have h2:(s.size:Int)<=12:=by assumption
  have h3:¬ (s[0].toNat:Int)=45:=by assumption
  have h4:((s[s.size - 1].toNat:Int) == 45)=false:=by assumption
  have H4:=jq h4;clear h4;have H3:=jq h3;go_loop [28] (λi=>∃ k:Nat,k<=s.size/\i = .int .i64 k/\(s.data.toList.take k).all Np.mI=true) (λi=>s.size - (intOf i).toNat)
  case atStart=>exact⟨0,jQ _,rfl,rfl⟩
  case round=>
   obtain⟨k,hk,rfl,ha⟩:=hrel;have HA:=jq ha;clear ha;by_cases ab:k<s.size
   ·have hb:=zL s[k];go_wp2
    all_goals first
     | (have hne:((s[k].toNat:Int) != 45)=true:=by assumption
        have Cn:=bne_iff_ne.1 hne;go_ret;exact⟨ag (aJZ s k ab (by rw[Sj];exact afY)).symm,rfl⟩)
     | (have hl:Np.mI s[k]=true:=by
         rw[Sj];refine uQ ?_
         first
          | omega
          | (have hne:((s[k].toNat:Int) != 45)=false:=by assumption
             have Cn:(s[k].toNat:Int)=45:=by simpa using hne
             omega)
        go_round
        case rel=>exact⟨k+1,by omega,by go_num,IM s k ab _ HA.out hl⟩
        case measure=>simp[intOf]<;>omega)
   ·go_wp2;go_ret;exact⟨ag (aJJ s (by omega) (by omega) H3.out (by simpa using H4.out) (by have:=HA.out;rwa [Gg s k (by omega)] at this)).symm,rfl⟩
theorem blK(c:Int)(h0:0<=c)(h1:c<=255)(x:UInt8):x=UInt8.ofNat c.toNat↔(x.toNat:Int)=c:=by
 have h:=oU x c.toNat (by omega);rw[Bool.eq_iff_iff] at h;simp only[beq_iff_eq,Qa] at h;rw[h];omega
theorem aNZ(s:ByteArray)(c:UInt8)(h:c∉s.data.toList.drop 0):Np.IH s.data.toList c (-1):=.inl ⟨rfl,by simpa using h⟩
theorem aNJ(s:ByteArray)(c:UInt8)(k:Nat)(hk:k<s.size)(h:c∉s.data.toList.drop (k+1))(hc:s[k]=c):Np.IH s.data.toList c (k:Int):=by
 refine .inr ⟨s.data.toList.take k,s.data.toList.drop (k+1),?_,h,?_⟩
 ·subst hc;rw[show s[k]=s.data.toList[k]'(by rw[bj];exact hk) from rfl,<-sQ,List.take_append_drop]
 ·simp;have:=bj s;simp at this;omega
theorem Zx(s:ByteArray)(c:UInt8)(k:Nat)(hk:k<s.size)(h:c∉s.data.toList.drop (k+1))(hc:¬ s[k]=c):c∉s.data.toList.drop k:=by
 rw[sQ (by rw[bj];exact hk)];intro hm;rcases List.mem_cons.1 hm with e | e
 ·exact hc e.symm
 ·exact h e
def L7(s:ByteArray)(c:UInt8)(w:World)(e:Ending)(w':World):Prop:=∃ r:Int,Np.IH s.data.toList c r/\e = .returned (.int .i64 r)/\w=w'
theorem aNK(s:ByteArray)(hs:s.size<=140737488355328)(c:Int)(h0:0<=c)(h1:c<=255)(w:World) :
 Calls prog 345 #[.string s,.int .u8 c] w (L7 s (UInt8.ofNat c.toNat) w):=by
 go_enter func345,ntmps345;go_wp2;go_loop [5] (λi=>∃ k:Int,-1<=k/\k<s.size/\i = .int .i64 k/\Hid (UInt8.ofNat c.toNat∉s.data.toList.drop (k+1).toNat)) (λi=>(intOf i+1).toNat)
 case atStart=>exact⟨_,by omega,by omega,rfl,jq (by rw[List.drop_eq_nil_of_le (by rw[bj];omega)];simp)⟩
 case round=>
  obtain⟨k,cj,ck,rfl,H⟩:=hrel;by_cases ab:0<=k
  ·obtain⟨j,rfl⟩:=Int.eq_ofNat_of_zero_le ab;have hj:j<s.size:=by omega
   have hb:=zL s[j];have hd:=blK c h0 h1 s[j];have HD:=jq hd;clear hd;go_wp2
   all_goals first
    | (have he:((s[j].toNat:Int) == c)=true:=by assumption
       go_ret;exact⟨j,aNJ s _ j hj (by simpa using H.out) (HD.out.2 (by simpa using he)),rfl,rfl⟩)
    | (have he:((s[j].toNat:Int) == c)=false:=by assumption
       go_round
       case rel=>exact⟨(j:Int) - 1,by omega,by omega,rfl,jq (by have:=Zx s _ j hj (by simpa using H.out) (λe=>by have:=HD.out.1 e;simp[this] at he);simpa using this)⟩
       case measure=>simp[intOf]<;>omega)
  ·obtain rfl:k = -1:=by omega
   go_wp2;go_ret;exact⟨-1,aNZ s _ (by simpa using H.out),rfl,rfl⟩
theorem Sp(s:ByteArray)(hs:s.size<=140737488355328)(c:Int)(h0:0<=c)(h1:c<=255)(w:World) :
 Calls prog 298 #[.string s,.int .u8 c] w (L7 s (UInt8.ofNat c.toNat) w):=by
 go_enter func298,ntmps298;go_wp2_with (go_at_call 345;refine (aNK _ hs _ h0 h1 _).mono ?_;rintro e w' ⟨r,hr,rfl,rfl⟩);go_ret;exact⟨r,hr,rfl,rfl⟩
end
namespace D
open Go.RowKit
structure Below(B:Nat)(w w':World):Prop where
 os:w'.os=w.os
 tape:w'.tape=w.tape
 output:w'.output=w.output
 size:w.heap.size<=w'.heap.size
 block:∀ k,k<B->w'.heap[k]?=w.heap[k]?
 drawn:w.drawn<=w'.drawn
theorem Below.low{B:Nat}{w w':World}(h:Below B w w'):Go.RowKit.Below B w w':=⟨h.os,h.tape,h.output,h.size,h.block⟩
theorem vQ(B:Nat)(w:World):Below B w w:=⟨rfl,rfl,rfl,bQ _,λ_ _=>rfl,bQ _⟩
theorem Below.trans{B:Nat}{a b c:World}(h:Below B a b)(k:Below B b c):Below B a c:=
 ⟨k.os.trans h.os,k.tape.trans h.tape,k.output.trans h.output,yQ h.size k.size,λi hi=>(k.block i hi).trans (h.block i hi),yQ h.drawn k.drawn⟩
theorem Below.mono{B B':Nat}{w w':World}(h:Below B w w')(hB:B'<=B):Below B' w w':=⟨h.os,h.tape,h.output,h.size,λk hk=>h.block k (lQ hk hB),h.drawn⟩
theorem Below.drew{B:Nat}{a w:World}(h:Below B a w):Below B a w.drew:=⟨h.os,h.tape,h.output,h.size,h.block,Nat.le_succ_of_le h.drawn⟩
theorem Below.heap_alloc(w:World)(o:Obj)(k:Nat)(h:k<w.heap.size):(w.alloc o).heap[k]?=w.heap[k]?:=Go.RowKit.Below.heap_alloc w o k h
theorem wQ(w:World)(a:Addr)(u:Value)(k:Nat)(h:k≠a.block):(w.setCell a u).heap[k]?=w.heap[k]?:=Go.RowKit.Below.heap_setCell w a u k h
theorem Below.alloc{B:Nat}{a w:World}(h:Below B a w)(hB:B<=w.heap.size)(o:Obj):Below B a (w.alloc o):=
 h.trans ⟨rfl,rfl,rfl,by simp,λk hk=>Below.heap_alloc _ _ _ (by omega),bQ _⟩
theorem Below.setCell{B:Nat}{a w:World}(h:Below B a w){p:Addr}(hp:B<=p.block)(u:Value):Below B a (w.setCell p u):=
 h.trans ⟨rfl,rfl,rfl,by simp[World.setCell],λk hk=>wQ _ _ _ _ (by omega),bQ _⟩
theorem Below.cell{B:Nat}{w w':World}(h:Below B w w'){p:Addr}(hp:p.block<B):w'.cell? p=w.cell? p:=h.low.cell hp
theorem Below.frozen{B:Nat}{w w':World}(h:Below B w w'){p:Addr}(hp:p.block<B):w'.frozen? p=w.frozen? p:=h.low.frozen hp
structure ItStep(B:Nat)(S:Nat->Prop)(W W':World):Prop where
 os:W'.os=W.os
 tape:W'.tape=W.tape
 output:W'.output=W.output
 size:W.heap.size<=W'.heap.size
 keep:∀ k,k<W.heap.size->(k<B\/S k)->W'.heap[k]?=W.heap[k]?
 drawn:W.drawn<=W'.drawn
structure RdStep(S:Nat->Prop)(W W':World):Prop where
 os:W'.os=W.os
 tape:W'.tape=W.tape
 output:W'.output=W.output
 size:W.heap.size<=W'.heap.size
 keep:∀ k,k<W.heap.size->¬ S k->W'.heap[k]?=W.heap[k]?
 drawn:W.drawn<=W'.drawn
theorem ItStep.refl(B:Nat)(S:Nat->Prop)(W:World):ItStep B S W W:=⟨rfl,rfl,rfl,bQ _,λ_ _ _=>rfl,bQ _⟩
theorem RdStep.refl(S:Nat->Prop)(W:World):RdStep S W W:=⟨rfl,rfl,rfl,bQ _,λ_ _ _=>rfl,bQ _⟩
theorem ItStep.trans{B:Nat}{S:Nat->Prop}{A W C:World}(h:ItStep B S A W)(k:ItStep B S W C):ItStep B S A C:=
 ⟨k.os.trans h.os,k.tape.trans h.tape,k.output.trans h.output,yQ h.size k.size,λi hi hs=>(k.keep i (lQ hi h.size) hs).trans (h.keep i hi hs),yQ h.drawn k.drawn⟩
theorem RdStep.trans{S S':Nat->Prop}{A W C:World}(h:RdStep S A W)(k:RdStep S' W C)(hS:∀ i,S' i->S i\/A.heap.size<=i):RdStep S A C:=
 ⟨k.os.trans h.os,k.tape.trans h.tape,k.output.trans h.output,yQ h.size k.size,λi hi hs=>
  (k.keep i (lQ hi h.size) (λe=>by rcases hS i e with e | e;exact hs e;omega)).trans (h.keep i hi hs),yQ h.drawn k.drawn⟩
theorem RdStep.mono{S S':Nat->Prop}{A W:World}(h:RdStep S A W)(hS:∀ i,S i->S' i):RdStep S' A W:=
 ⟨h.os,h.tape,h.output,h.size,λi hi hs=>h.keep i hi (λe=>hs (hS i e)),h.drawn⟩
theorem ItStep.of_below{B:Nat}{S:Nat->Prop}{A W:World}(h:Below A.heap.size A W):ItStep B S A W:=
 ⟨h.os,h.tape,h.output,h.size,λk hk _=>h.block k hk,h.drawn⟩
theorem RdStep.of_below{S:Nat->Prop}{A W:World}(h:Below A.heap.size A W):RdStep S A W:=
 ⟨h.os,h.tape,h.output,h.size,λk hk _=>h.block k hk,h.drawn⟩
theorem RdStep.below{S:Nat->Prop}{A W:World}{n:Nat}(h:RdStep S A W)(hn:n<=A.heap.size)(hS:∀ k,S k->n<=k):Below n A W:=
 ⟨h.os,h.tape,h.output,h.size,λk hk=>h.keep k (by omega) (λe=>by have:=hS k e;omega),h.drawn⟩
theorem RdStep.setCell{S:Nat->Prop}{A W:World}(h:RdStep S A W){p:Addr}(hp:S p.block\/A.heap.size<=p.block)(u:Value):RdStep S A (W.setCell p u):=
 ⟨h.os,h.tape,h.output,by simpa [World.setCell] using h.size,λk hk hs=>(wQ _ _ _ _ (by rintro rfl;rcases hp with hp | hp;exact hs hp;omega)).trans (h.keep k hk hs),h.drawn⟩
theorem RdStep.alloc{S:Nat->Prop}{A W:World}(h:RdStep S A W)(o:Obj):RdStep S A (W.alloc o):=
 ⟨h.os,h.tape,h.output,yQ h.size (by simp),λk hk hs=>(Below.heap_alloc _ _ _ (lQ hk h.size)).trans (h.keep k hk hs),h.drawn⟩
theorem RdStep.drew{S:Nat->Prop}{A W:World}(h:RdStep S A W):RdStep S A W.drew:=⟨h.os,h.tape,h.output,h.size,h.keep,Nat.le_succ_of_le h.drawn⟩
theorem RdStep.then_below{S:Nat->Prop}{A W C:World}(h:RdStep S A W)(k:Below W.heap.size W C):RdStep S A C:=
 ⟨k.os.trans h.os,k.tape.trans h.tape,k.output.trans h.output,yQ h.size k.size,λi hi hs=>(k.block i (lQ hi h.size)).trans (h.keep i hi hs),yQ h.drawn k.drawn⟩
def fO{β:Type}(B:Nat)(J:β->(Nat->Prop)->World->Prop):Prop:=∀ s S W W',J s S W->ItStep B S W W'->J s S W'
def D9{α:Type}(J Jx:List α->(Nat->Prop)->World->Prop)(pre:List α)(x:α)(S:Nat->Prop)(W:World)(e:Ending)(W':World):Prop:=
 ∃ S':Nat->Prop,RdStep S W W'/\(∀ k,S' k->S k\/W.heap.size<=k)/\(∀ k,S' k->k<W'.heap.size)/\
   ((e = .returned (.bool true)/\J (pre ++ [x]) S' W')\/(e = .returned (.bool false)/\Jx (pre ++ [x]) S' W'))
def D6{α:Type}(P:Program)(gf:FuncId)(mk:Value->Array Value)(encs:α->Array Value)(xs:List α)(n₀:Nat)(w:World):Prop:=
 ∀ (l:Nat) (J Jx:List α->(Nat->Prop)->World->Prop) (S:Nat->Prop) (W:World),Below n₀ w W->
   fO W.heap.size J->fO W.heap.size Jx->
   (∀ pre x S1 W1,pre ++ [x] <+: xs->J pre S1 W1->(∀ k,S1 k->k<W1.heap.size)->W.heap.size<=W1.heap.size->
     YieldAt Fence.wide 0 P l (encs x) W1 (D9 J Jx pre x S1 W1))->
   (∀ k,S k->n₀<=k)->(∀ k,S k->k<W.heap.size)->J [] S W->
   CallsIn Fence.wide 0 P gf (mk (.func (.yield l) #[] #[])) W λe W'=>(∃ v,e = .returned v)/\
    ((∃ S',J xs S' W'/\(∀ k,S' k->S k\/W.heap.size<=k))\/(∃ pre S',pre <+: xs/\Jx pre S' W'/\(∀ k,S' k->S k\/W.heap.size<=k)))
def qG{α:Type}(I:List α->(Nat->Prop)->World->Prop)(Ix:Code->List α->(Nat->Prop)->World->Prop)(xs:List α)(S:Nat->Prop)(W:World):Exit->Act->World->Prop
 | .normal,_,W'=>∃ S',RdStep S W W'/\(∀ k,S' k->S k\/W.heap.size<=k)/\(∀ k,S' k->k<W'.heap.size)/\I xs S' W'
 | .ret,_,W'=>∃ S',RdStep S W W'/\(∀ k,S' k->S k\/W.heap.size<=k)/\(∀ k,S' k->k<W'.heap.size)/\Ix .ret xs S' W'
 | .exit id,_,W'=>∃ S',RdStep S W W'/\(∀ k,S' k->S k\/W.heap.size<=k)/\(∀ k,S' k->k<W'.heap.size)/\Ix (.exit id) xs S' W'
 | _,_,_=>False
theorem nM{B:Nat}{S:Nat->Prop}{W:World}{l:Nat}(o:Obj)(hl:B<=l)(hS:¬ S l):ItStep B S W (W.putObj l o):=
 ⟨rfl,rfl,rfl,by simp,λk _ hk=>zQ (by rintro rfl;rcases hk with hk | hk;omega;exact hS hk),bQ _⟩
theorem zz{B:Nat}{S:Nat->Prop}{W:World}(o:Obj):ItStep B S W (W.alloc o):=
 ⟨rfl,rfl,rfl,by simp,λk hk _=>Below.heap_alloc _ _ _ hk,bQ _⟩
theorem ItStep.weaken{B B':Nat}{S S':Nat->Prop}{W W':World}(h:ItStep B S W W')(hB:B'<=B)(hS:∀ k,S' k->S k):ItStep B' S' W W':=
 ⟨h.os,h.tape,h.output,h.size,λk hk hs=>h.keep k hk (hs.imp (λe=>by omega) (hS k)),h.drawn⟩
theorem brY{α:Type}{P:Program}{g:Operand}{ps:Array Tmp}{assign body:Code}{Q:Exit->Act->World->Prop}{a:Act}{w:World}
 {gf:FuncId} {first captured:Array Value} (hg:a.eval g = .func (.func gf) first captured) (eg:∀ args w,(callFunc gf args).run P w = .ok (.enter gf args) w)
 {mk:Value->Array Value} {encs:α->Array Value} {xs:List α} {n₀:Nat} {w0:World} (ir:∀ y,mk y=first ++ #[y]++captured)
 (hit:D6 P gf mk encs xs n₀ w0) (dm:Below n₀ w0 w) (su:n₀<=w.heap.size) (dN:∀ x,(encs x).size=ps.size)
 (I:List α->(Nat->Prop)->World->Prop) (Ix:Code->List α->(Nat->Prop)->World->Prop) (A:List α->α->(Nat->Prop)->Act->World->Prop)
 (hI:fO w.heap.size I) (nj:∀ c,fO w.heap.size (Ix c)) (hA:∀ pre x S a' W W',A pre x S a' W->ItStep w.heap.size S W W'->A pre x S a' W')
 (S0:Nat->Prop) (vN:∀ k,S0 k->n₀<=k) (pC:∀ k,S0 k->k<w.heap.size) (h0:I [] S0 w)
 (JK:∀ (l:Nat) (pre:List α) (x:α) (S:Nat->Prop) (W:World),pre ++ [x] <+: xs->I pre S W->(∀ k,S k->k<W.heap.size)->
   assign.wpIn (Fence.wide.inRound l) 0 P (Exit.then (λa₁ W₁=>∃ S',RdStep S W W₁/\(∀ k,S' k->S k\/W.heap.size<=k)/\(∀ k,S' k->k<W₁.heap.size)/\A pre x S' a₁ W₁) (λ_ _ _=>False))
    { tmps:=(ps.zip (encs x)).foldl (λt (p,v)=>t.setIfInBounds p v) a.tmps,defers:=[] } W)
 (JR:∀ (l:Nat) (pre:List α) (x:α) (S:Nat->Prop) (a₁:Act) (W:World),pre ++ [x] <+: xs->A pre x S a₁ W->(∀ k,S k->k<W.heap.size)->
   body.wpIn (Fence.wide.inRound l) 0 P (qG I Ix (pre ++ [x]) S W) a₁ W)
 (rW:∀ (D:Nat) (S:Nat->Prop) (W:World),w.heap.size<=D->¬ S D->(∀ k,S k->S0 k\/w.heap.size<=k)->I xs S W->W.heap[D]?=some (.deferred (some []))->
   Q .normal { a with defers:={ target:=.collected D,args:=#[] } :: a.defers } W)
 (jl:∀ (D:Nat) (c:Code) (pre:List α) (S:Nat->Prop) (W:World),w.heap.size<=D->¬ S D->(∀ k,S k->S0 k\/w.heap.size<=k)->pre <+: xs->Ix c pre S W->W.heap[D]?=some (.deferred (some []))->
   c.wpIn Fence.wide 0 P Q { a with defers:={ target:=.collected D,args:=#[] } :: a.defers } W) :
 (Code.rangeFunc g ps assign body).wpIn Fence.wide 0 P Q a w:=by
 refine wpIn_rangeFunc ?_;intro fn oC;show ∃ (l:Nat) (mark:List Deferred) (w₁:World) (d:Deferred) (w₁':World) (f:FuncId) (args:Array Value) (w₂:World),(Instr.enterLoop fn a.tmps ps assign body none).run P w = .ok (l,mark) w₁/\_;obtain⟨rec,jj⟩:∃ rec:LoopState->Option Code->Loop,rec=λst pe=>{ state:=st,pending:=pe,fn,tmps:=a.tmps,params:=ps,assign,body,defers:=w.heap.size }:=⟨_,rfl⟩;obtain⟨W1,aB⟩:=afZ ((w.alloc (.deferred (some []))).alloc (.loop (rec .ready none)));have ay:W1.heap.size=w.heap.size+2:=by rw[<-aB];simp
 have gT:W1.heap[w.heap.size+1]?=some (.loop (rec .ready none)):=by
  rw[<-aB];have:=World.alloc_heap_new (w.alloc (.deferred (some []))) (.loop (rec .ready none));rwa [World.size_alloc] at this
 have Ju:W1.heap[w.heap.size]?=some (.deferred (some [])):=by
  rw[<-aB];exact (Below.heap_alloc _ _ _ (by simp)).trans (World.alloc_heap_new w _)
 have ld:I [] S0 W1:=by rw[<-aB];exact hI _ _ _ _ (hI _ _ _ _ h0 (zz _)) (zz _)
 have av:Below n₀ w0 W1:=by
  rw[<-aB];exact dm.trans ((((vQ _ w).alloc (bQ _) _).alloc (by simp) _).mono su)
 refine⟨w.heap.size+1,[{ target:=.collected w.heap.size,args:=#[] }],W1,{ target:=.fn (.func gf) captured,args:=first ++ #[.func (.yield (w.heap.size+1)) #[] #[]] },W1,gf,
  first ++ #[.func (.yield (w.heap.size+1)) #[] #[]]++captured,W1,?_,?_,?_,?_,λh=>by simp[Fence.wide] at h,?_⟩
 ·rw[<-aB,jj];exact run_enterLoop_outer _ _ _ _ _
 ·simp only[resolve,hg];simp[go_sem]
 ·intro f' _;trivial
 ·simp[invoke,go_sem,eg]
 ·rw[<-ir];have key:=hit (w.heap.size+1)
   (λpre Si W=>∃ S:Nat->Prop,(∀ k,Si k↔S k\/k=w.heap.size+1)/\(¬ S w.heap.size)/\(¬ S (w.heap.size+1))/\(∀ k,S k->S0 k\/w.heap.size<=k)/\I pre S W/\W.heap[w.heap.size+1]?=some (.loop (rec .ready none))/\W.heap[w.heap.size]?=some (.deferred (some [])))
   (λpre Si W=>∃ (S:Nat->Prop) (c:Code),(∀ k,Si k↔S k\/k=w.heap.size+1)/\(¬ S w.heap.size)/\(¬ S (w.heap.size+1))/\(∀ k,S k->S0 k\/w.heap.size<=k)/\Ix c pre S W/\W.heap[w.heap.size+1]?=some (.loop (rec .done (some c)))/\W.heap[w.heap.size]?=some (.deferred (some [])))
   (λk=>S0 k\/k=w.heap.size+1) W1 av ?_ ?_ ?_ ?_ ?_ ?_
  ·refine key.mono ?_;rintro e W2 ⟨⟨v,rfl⟩,(⟨S',⟨S,fD,hD,hL,bR,hi,hl,hk⟩,_⟩ | ⟨pre,S',g8,⟨S,c,fD,hD,hL,bR,hi,hl,hk⟩,_⟩)⟩
   ·refine⟨none,_,by have:=run_endLoop (P:=P) hl (by rw[jj];simp);rw[jj] at this;exact this,?_⟩;exact rW _ S _ (bQ _) hD bR (hI _ _ _ _ hi (nM _ (by omega) hL)) ((zQ (by omega)).trans hk)
   ·refine⟨some c,_,by have:=run_endLoop (P:=P) hl (by rw[jj];simp);rw[jj] at this;exact this,?_⟩;exact jl _ c pre S _ (bQ _) hD bR g8 ((nj c) _ _ _ _ hi (nM _ (by omega) hL)) ((zQ (by omega)).trans hk)
  ·rintro pre Si A1 B1 ⟨S,fD,hD,hL,bR,hi,hl,hk⟩ ax;have ab:w.heap.size+1<A1.heap.size:=(eQ.1 hl).1;exact⟨S,fD,hD,hL,bR,hI _ _ _ _ hi (ax.weaken (by omega) (λk e=>(fD k).2 (.inl e))),(ax.keep _ ab (.inl (by omega))).trans hl,(ax.keep _ (by omega) (.inl (by omega))).trans hk⟩
  ·rintro pre Si A1 B1 ⟨S,c,fD,hD,hL,bR,hi,hl,hk⟩ ax;have ab:w.heap.size+1<A1.heap.size:=(eQ.1 hl).1;exact⟨S,c,fD,hD,hL,bR,nj c _ _ _ _ hi (ax.weaken (by omega) (λk e=>(fD k).2 (.inl e))),(ax.keep _ ab (.inl (by omega))).trans hl,(ax.keep _ (by omega) (.inl (by omega))).trans hk⟩
  ·
   rintro pre x Si W bM ⟨S,fD,hD,hL,bR,hi,hl,hk⟩ ed PN;have ab:w.heap.size+1<W.heap.size:=(eQ.1 hl).1;have JD:∀ k,S k->k<W.heap.size:=λk e=>ed k ((fD k).2 (.inl e));have hy:=run_yield (P:=P) (args:=encs x) hl (by rw[jj];exact dN x);rw[jj] at hy;refine⟨fn,_,assign,body,hy,roundIn_of_wpIn oC (wpIn_mono (JK _ pre x S W bM hi JD) ?_)⟩;intro e a1 Wa hq
   cases e with
   | normal=>
    obtain⟨S1,gJ,bU,KE,Jj⟩:=hq;have Ck:¬ S1 w.heap.size:=λe=>by rcases bU _ e with e | e;exact hD e;omega
    have wL:¬ S1 (w.heap.size+1):=λe=>by rcases bU _ e with e | e;exact hL e;omega
    have Ce:Wa.heap[w.heap.size+1]?=some (.loop (rec .ready none)):=(gJ.keep _ ab hL).trans hl;have Kg:Wa.heap[w.heap.size]?=some (.deferred (some [])):=(gJ.keep _ (by omega) hD).trans hk;have Cf:w.heap.size+1<Wa.heap.size:=(eQ.1 Ce).1;refine⟨_,run_beginRound Ce (by rw[jj]),?_⟩;have hb:=JR (w.heap.size+1) pre x S1 a1 (Wa.putObj (w.heap.size+1) (.loop { rec .ready none with state:=.busy })) bM (hA _ _ _ _ _ _ Jj (nM _ (by omega) wL)) (λk e=>by simpa using KE k e);refine wpIn_mono hb ?_;have fin:∀ (jump:Option Code) (W3:World) (S3:Nat->Prop),RdStep S1 (Wa.putObj (w.heap.size+1) (.loop { rec .ready none with state:=.busy })) W3->(∀ k,S3 k->S1 k\/(Wa.putObj (w.heap.size+1) (.loop { rec .ready none with state:=.busy })).heap.size<=k)->(∀ k,S3 k->k<W3.heap.size)->
     (Instr.endRound (w.heap.size+1) jump).run P W3 = .ok (.bool jump.isNone) (W3.putObj (w.heap.size+1) (.loop (rec (if jump.isNone then .ready else .done) jump)))/\
     (W3.putObj (w.heap.size+1) (.loop (rec (if jump.isNone then .ready else .done) jump))).heap[w.heap.size+1]?=some (.loop (rec (if jump.isNone then .ready else .done) jump))/\
     (W3.putObj (w.heap.size+1) (.loop (rec (if jump.isNone then .ready else .done) jump))).heap[w.heap.size]?=some (.deferred (some []))/\
     ¬ S3 w.heap.size/\¬ S3 (w.heap.size+1)/\(∀ k,S3 k->S k\/W.heap.size<=k)/\
     RdStep Si W (W3.putObj (w.heap.size+1) (.loop (rec (if jump.isNone then .ready else .done) jump))):=λjump W3 S3 ft fI eU=>by
     have dF:(Wa.putObj (w.heap.size+1) (.loop { rec .ready none with state:=.busy })).heap[w.heap.size+1]?=some (.loop { rec .ready none with state:=.busy }):=World.putObj_heap_same Cf;have lk:(Wa.putObj (w.heap.size+1) (.loop { rec .ready none with state:=.busy })).heap[w.heap.size]?=some (.deferred (some [])):=(zQ (by omega)).trans Kg;have qT:=(ft.keep _ (by simpa using Cf) wL).trans dF;have oG:=(ft.keep _ (by simp;omega) Ck).trans lk;have ua:=(eQ.1 qT).1
     have:=run_endRound (P:=P) jump qT
     rw[jj] at this |-;have mE:=ft.size;have uk:=gJ.size;simp only[World.putObj_size] at mE fI;refine⟨this,World.putObj_heap_same ua,(zQ (by omega)).trans oG,λe=>?_,λe=>?_,λk e=>?_,?_⟩
     ·rcases fI _ e with e | e;exact Ck e;omega
     ·rcases fI _ e with e | e;exact wL e;omega
     ·rcases fI _ e with e | e
      ·exact bU _ e
      ·right;omega
     ·refine⟨ft.os.trans gJ.os,ft.tape.trans gJ.tape,ft.output.trans gJ.output,by simp;omega,λk hk' Cl=>?_,yQ gJ.drawn ft.drawn⟩;have nA:k≠w.heap.size+1:=λe=>Cl ((fD k).2 (.inr e));have Cm:¬ S k:=λe=>Cl ((fD k).2 (.inl e));have Kq:¬ S1 k:=λe=>by rcases bU _ e with e | e;exact Cm e;omega
      exact (zQ nA).trans ((ft.keep k (by simp;omega) Kq).trans ((zQ nA).trans (gJ.keep k hk' Cm)))
    have fin2:∀ (S3:Nat->Prop) (W3:World) (o:Obj),(∀ k,S3 k->k<W3.heap.size)->W.heap.size<=W3.heap.size->(∀ k,S3 k->S k\/W.heap.size<=k)->
     (∀ k,(S3 k\/k=w.heap.size+1)->Si k\/W.heap.size<=k)/\(∀ k,(S3 k\/k=w.heap.size+1)->k<(W3.putObj (w.heap.size+1) o).heap.size):=λS3 W3 o h1 h2 h3=>
     ⟨λk e=>by rcases e with e | e;exact (h3 k e).imp (λe'=>(fD k).2 (.inl e')) id;exact .inl ((fD k).2 (.inr e)),λk e=>by
      simp only[World.putObj_size];rcases e with e | e
      ·exact h1 k e
      ·omega⟩
    have sub3:∀ (S3:Nat->Prop),(∀ k,S3 k->S k\/W.heap.size<=k)->∀ k,S3 k->S0 k\/w.heap.size<=k:=λS3 h k e=>by
     rcases h k e with e | e
     ·exact bR k e
     ·right;omega
    rintro e a3 W3 hp
    cases e with
    | normal=>
     obtain⟨S3,ft,fI,eU,pM⟩:=hp;obtain⟨hr,pO,oH,kj,kl,gK,bJ⟩:=fin none W3 S3 ft fI eU;have ay:W.heap.size<=W3.heap.size:=by simpa using bJ.size
     refine⟨_,_,hr,λk=>S3 k\/k=w.heap.size+1,bJ,(fin2 S3 W3 (.deferred none) eU ay gK).1,(fin2 S3 W3 _ eU ay gK).2,.inl ⟨rfl,S3,λ_=>Iff.rfl,kj,kl,sub3 S3 gK,hI _ _ _ _ pM (nM _ (by omega) kl),pO,oH⟩⟩
    | ret=>
     obtain⟨S3,ft,fI,eU,pM⟩:=hp;obtain⟨hr,pO,oH,kj,kl,gK,bJ⟩:=fin (some .ret) W3 S3 ft fI eU;have ay:W.heap.size<=W3.heap.size:=by simpa using bJ.size
     refine⟨_,_,hr,λk=>S3 k\/k=w.heap.size+1,bJ,(fin2 S3 W3 (.deferred none) eU ay gK).1,(fin2 S3 W3 _ eU ay gK).2,.inr ⟨rfl,S3,.ret,λ_=>Iff.rfl,kj,kl,sub3 S3 gK,nj _ _ _ _ _ pM (nM _ (by omega) kl),pO,oH⟩⟩
    | exit id=>
     obtain⟨S3,ft,fI,eU,pM⟩:=hp;obtain⟨hr,pO,oH,kj,kl,gK,bJ⟩:=fin (some (.exit id)) W3 S3 ft fI eU;have ay:W.heap.size<=W3.heap.size:=by simpa using bJ.size
     refine⟨_,_,hr,λk=>S3 k\/k=w.heap.size+1,bJ,(fin2 S3 W3 (.deferred none) eU ay gK).1,(fin2 S3 W3 _ eU ay gK).2,.inr ⟨rfl,S3,.exit id,λ_=>Iff.rfl,kj,kl,sub3 S3 gK,nj _ _ _ _ _ pM (nM _ (by omega) kl),pO,oH⟩⟩
    | goto t=>exact hp.elim
    | panic ch=>exact hp.elim
    | outgrown=>exact hp.elim
   | ret=>exact hq.elim
   | exit id=>exact hq.elim
   | goto t=>exact hq.elim
   | panic ch=>exact hq.elim
   | outgrown=>exact hq.elim
  ·rintro k (e | rfl)
   ·exact vN k e
   ·omega
  ·rintro k (e | rfl)
   ·have:=pC k e;omega
   ·omega
  ·exact⟨S0,λ_=>Iff.rfl,λe=>by have:=pC _ e;omega,λe=>by have:=pC _ e;omega,λ_ e=>.inl e,ld,gT,Ju⟩
theorem iK{B:Nat}{S:Nat->Prop}{W W':World}{b:Nat}{t:TypeId}{v:Value}(h:Boxed W b t v)(hs:ItStep B S W W')(hb:S b):Boxed W' b t v:=(hs.keep b h.lt (.inr hb)).trans h
theorem qF{n B:Nat}{S:Nat->Prop}{w W W':World}(h:Below n w W)(hs:ItStep B S W W')(hB:n<=B)(hn:n<=w.heap.size):Below n w W':=
 ⟨hs.os.trans h.os,hs.tape.trans h.tape,hs.output.trans h.output,yQ h.size hs.size,λk hk=>(hs.keep k (by have:=h.size;omega) (.inl (by omega))).trans (h.block k hk),yQ h.drawn hs.drawn⟩
theorem ej{n:Nat}{W W':World}{b:Nat}{t:TypeId}{v:Value}(h:Boxed W b t v)(hs:Below n W W')(hb:b<n):Boxed W' b t v:=(hs.block b hb).trans h
theorem eP{W:World}{b:Nat}{t:TypeId}{v:Value}(h:Boxed W b t v){p:Addr}(hp:b≠p.block)(u:Value):Boxed (W.setCell p u) b t v:=(wQ W p u b hp).trans h
theorem nf{P:Program}{fn:Func}{R:Ending->World->Prop}{tmps:Array Value}{w:World}{v:Value}(nJ:(results fn tmps).run P w = .ok v w)(hR:R (.returned v) w) :
 bodyPostM Fence.wide 0 P fn R .ret { tmps:=tmps,defers:=[] } w:=⟨_,nJ,hR⟩
theorem mv{P:Program}{fn:Func}{R:Ending->World->Prop}{tmps:Array Value}{W:World}{D:Nat}{v:Value}(hK:W.heap[D]?=some (.deferred (some [])))
 (nJ:(results fn tmps).run P (W.putObj D (.deferred none)) = .ok v (W.putObj D (.deferred none))) (hR:R (.returned v) (W.putObj D (.deferred none))) :
 bodyPostM Fence.wide 0 P fn R .ret { tmps:=tmps,defers:=[{ target:=.collected D,args:=#[] }] } W:=
 ⟨by simp,.inl ⟨_,_,rfl,run_takeDeferred hK,_,nJ,hR⟩⟩
theorem lT{n D:Nat}{w W:World}(h:Below n w W)(hD:n<=D)(o:Obj):Below n w (W.putObj D o):=
 ⟨h.os,h.tape,h.output,by simpa using h.size,λk hk=>(zQ (by omega)).trans (h.block k hk),h.drawn⟩
theorem rJ{W:World}{b D:Nat}{t:TypeId}{v:Value}(h:Boxed W b t v)(hD:b≠D)(o:Obj):Boxed (W.putObj D o) b t v:=(zQ hD).trans h
theorem LU{α:Type}{P:Program}{g:Operand}{ps:Array Tmp}{assign body:Code}{Q:Exit->Act->World->Prop}{a:Act}{w:World}
 {gf:FuncId} {first captured:Array Value} (hg:a.eval g = .func (.func gf) first captured) (eg:∀ args w,(callFunc gf args).run P w = .ok (.enter gf args) w)
 {mk:Value->Array Value} {encs:α->Array Value} {xs:List α} {n₀:Nat} {w0:World} (ir:∀ y,mk y=first ++ #[y]++captured)
 (hit:D6 P gf mk encs xs n₀ w0) (dm:Below n₀ w0 w) (su:n₀<=w.heap.size) (dN:∀ x,(encs x).size=ps.size)
 (I:List α->(Nat->Prop)->World->Prop) (Ix:Code->List α->(Nat->Prop)->World->Prop)
 (hI:fO w.heap.size I) (nj:∀ c,fO w.heap.size (Ix c))
 (S0:Nat->Prop) (vN:∀ k,S0 k->n₀<=k) (pC:∀ k,S0 k->k<w.heap.size) (h0:I [] S0 w)
 (KD:∀ (l0:Nat) (pre:List α) (x:α) (S:Nat->Prop) (W:World),pre ++ [x] <+: xs->I pre S W->(∀ k,S k->k<W.heap.size)->
   assign.wpIn (Fence.wide.inRound l0) 0 P (Exit.then (λa₁ W₁=>∃ S',RdStep S W W₁/\(∀ k,S' k->S k\/W.heap.size<=k)/\(∀ k,S' k->k<W₁.heap.size)/\
    ∀ l W₂,ItStep w.heap.size S' W₁ W₂->body.wpIn (Fence.wide.inRound l) 0 P (qG I Ix (pre ++ [x]) S' W₂) a₁ W₂) (λ_ _ _=>False))
    { tmps:=(ps.zip (encs x)).foldl (λt (p,v)=>t.setIfInBounds p v) a.tmps,defers:=[] } W)
 (rW:∀ (D:Nat) (S:Nat->Prop) (W:World),w.heap.size<=D->¬ S D->(∀ k,S k->S0 k\/w.heap.size<=k)->I xs S W->W.heap[D]?=some (.deferred (some []))->
   Q .normal { a with defers:={ target:=.collected D,args:=#[] } :: a.defers } W)
 (jl:∀ (D:Nat) (c:Code) (pre:List α) (S:Nat->Prop) (W:World),w.heap.size<=D->¬ S D->(∀ k,S k->S0 k\/w.heap.size<=k)->pre <+: xs->Ix c pre S W->W.heap[D]?=some (.deferred (some []))->
   c.wpIn Fence.wide 0 P Q { a with defers:={ target:=.collected D,args:=#[] } :: a.defers } W) :
 (Code.rangeFunc g ps assign body).wpIn Fence.wide 0 P Q a w:=
 brY hg eg ir hit dm su dN I Ix (λpre x S a₁ W=>∀ l W₂,ItStep w.heap.size S W W₂->body.wpIn (Fence.wide.inRound l) 0 P (qG I Ix (pre ++ [x]) S W₂) a₁ W₂)
  hI nj (λ_ _ _ _ _ _ h hs l W₂ h2=>h l W₂ (hs.trans h2)) S0 vN pC h0 KD (λl _ _ _ _ W _ h _=>h l W (ItStep.refl _ _ _)) rW jl
def bN(w:World):Type:={ x:World // Below w.heap.size w x }
def bN.w{w:World}(g:bN w):World:=g.1
theorem bN.below{w:World}(g:bN w):Below w.heap.size w g.w:=g.2
instance (w:World):Nonempty (bN w):=⟨⟨w,vQ _ _⟩⟩
theorem bN.cell{w:World}(g:bN w)(p:Addr)(h:p.block<w.heap.size):g.w.cell? p=w.cell? p:=g.2.cell h
theorem bN.frozen{w:World}(g:bN w)(p:Addr)(h:p.block<w.heap.size):g.w.frozen? p=w.frozen? p:=g.2.frozen h
theorem bN.size{w:World}(g:bN w):w.heap.size<=g.w.heap.size:=g.2.size
def zX(w:World)(w':World):Prop:=∃ g:bN w,w'=g.w
theorem zX.of{w w':World}(h:Below w.heap.size w w'):zX w w':=⟨⟨w',h⟩,rfl⟩
theorem Calls.grow_of{P:Program}{f:FuncId}{args:Array Value}{w:World}{g:bN w}{v:Value}
 (h:Calls P f args g.w λe w'=>e = .returned v/\Below g.w.heap.size g.w w'):Calls P f args g.w λe w''=>e = .returned v/\∃ g':bN w,w''=g'.w:=
 h.mono λ_ w' ⟨he,hm⟩=>⟨he,⟨w',g.2.trans (hm.mono g.2.size)⟩,rfl⟩
section
variable {P:Program}
theorem eM{id:Nat}{Q:Exit->Act->World->Prop}{a:Act}{w:World}{l:List Oper}(hm:P.follows .mixedOrders=true)(hB:Region.lexB .any l.toArray=true)
 (h:wpQuiet P l.toArray (λw'=>∃ g:bN w,w'=g.w) (λa'=>∀ w',(∃ g:bN w,w'=g.w)->Q .normal a' w') l a):(Code.region id l.toArray true).wp P Q a w:=
 wp_region_quiet (C:=λw'=>∃ g:bN w,w'=g.w) hm hB ⟨⟨_,(vQ w.heap.size w).drew⟩,rfl⟩ (by simpa using h)
end
theorem tD{W w1:World}(hb:Below W.heap.size W w1):(∀ b o,b<W.heap.size->w1.cell? ⟨b,o,none⟩=W.cell? ⟨b,o,none⟩)/\(∀ b o,b<W.heap.size->w1.frozen? ⟨b,o,none⟩=W.frozen? ⟨b,o,none⟩):=
 ⟨λb o h=>hb.cell (p:=⟨b,o,none⟩) h,λb o h=>hb.frozen (p:=⟨b,o,none⟩) h⟩
end D
namespace D
open Go.RowKit Go.Shelf
attribute [local go_sem] Oper.semAt_some
abbrev aI(l:List UInt8):Value:=.string ⟨l.toArray⟩
def biX:Value->Nat
 | .string s=>s.size
 | _=>0
def Uu(t:ByteArray)(J:List (List UInt8)->(Nat->Prop)->World->Prop)(S:Nat->Prop)(W:World)(v:Value)(wr:World):Prop:=
 ∃ (pre:List (List UInt8)) (r:ByteArray) (S1:Nat->Prop),v = .string r/\r.size<=140737488355328/\Np.bI t.data.toList=pre++(Np.bl r.data.toList).reverse/\
   J pre S1 wr/\(∀ k,S1 k->k<wr.heap.size)/\W.heap.size<=wr.heap.size/\(∀ k,S1 k->S k\/W.heap.size<=k)
theorem IR(t:ByteArray)(ht:t.size<=140737488355328)(n₀:Nat)(w:World) :
 D6 prog 215 (λy=>#[.string t,y]) (λx:List UInt8=>#[aI x]) (Np.bI t.data.toList) n₀ w:=by
 intro l J Jx S W hW hJ Js hY hS hS' h0;refine callsIn_of_wp func215 rfl trivial ?_ rfl;simp only[ntmps215,List.size_toArray,List.length_cons,List.length_nil,Nat.reduceAdd,Nat.reduceSub,Array.replicate_succ,Array.replicate_zero,List.push_toArray,List.append_toArray,List.nil_append,List.cons_append];gi_wp2_with fail
 ·have he:(t.toList == [46])=true:=by assumption
  have my:t.data.toList = [46]:=by rw[<-dQ];simpa using he
  have hb:Np.bI t.data.toList = []:=by simp[Np.bI,my]
  refine bodyPost_ret (results_none rfl _ _ _) rfl ?_;exact⟨⟨_,rfl⟩,.inl ⟨S,by rw[hb];exact h0,λk e=>.inl e⟩⟩
 ·have he:(t.toList == [46])=false:=by assumption
  have hne:¬ t.data.toList = [46]:=by rw[<-dQ];simpa using he
  have hb:Np.bI t.data.toList=(Np.bl t.data.toList).reverse:=by simp[Np.bI,hne]
  have HB:=jq hb;clear hb;gi_loopw [4] (λv wr=>Uu t J S W v wr) (λv _=>biX v)
  case atStart=>exact⟨[],t,S,rfl,ht,by simpa using HB.out,h0,hS',bQ _,λ_ e=>.inl e⟩
  case round=>
   obtain⟨pre,r,S1,rfl,hr,g8,hj,ab,ay,bR⟩:=hrel;have HP:=jq g8;clear g8;gi_wp2_with fail;refine⟨trivial,rfl,?_⟩;refine (callsIn_wide.2 (Sp _ hr _ (by decide) (by decide) _)).mono ?_;rintro e w' ⟨q,hq,rfl,rfl⟩;rcases hq with ⟨rfl,fG⟩ | ⟨a,b,kg,wM,rfl⟩
   ·have bU:Np.bl r.data.toList = [r.data.toList]:=Np.sZ fG;have hx:pre ++ [r.data.toList] <+: Np.bI t.data.toList:=by rw[HP.out,bU];exact List.prefix_refl _
    obtain⟨fn,tmps,assign,body,hy,hR⟩:=hY pre r.data.toList S1 wr hx hj ab ay;have oK:Sem.run prog (Instr.yield l #[.string r]) wr = .ok (.round l fn tmps assign body) wr:=hy;clear hy;have HX:=jq hx;clear hx;have HS:=jq bU;clear bU fG;gi_wp2_with fail;refine⟨rfl,hR.mono ?_⟩;rintro e W3 ⟨S3,bJ,uj,ua,(⟨rfl,Bz⟩ | ⟨rfl,BA⟩)⟩
    all_goals
     gi_wp2_with fail;refine bodyPost_ret (results_none rfl _ _ _) rfl ?_
    ·refine⟨⟨_,rfl⟩,.inl ⟨S3,?_,λk e=>?_⟩⟩
     ·rw[HP.out,HS.out];exact Bz
     ·rcases uj k e with e | e
      ·exact bR k e
      ·right;omega
    ·refine⟨⟨_,rfl⟩,.inr ⟨_,S3,HX.out,BA,λk e=>?_⟩⟩;rcases uj k e with e | e
     ·exact bR k e
     ·right;omega
   ·have mb:a.length+1+b.length=r.size:=by rw[<-bj,kg];simp;omega
    have bU:Np.bl r.data.toList=Np.bl a ++ [b]:=by rw[kg];exact (Np.xC a b).trans (by rw[Np.sZ wM])
    have hx:pre ++ [b] <+: Np.bI t.data.toList:=by rw[HP.out,bU];simp
    have uq:(r.extract (a.length+1) r.size).data.toList=b:=by rw[I3,kg];simp
    have zp:(r.extract 0 a.length).data.toList=a:=by rw[I5,kg];simp
    have Rh:(r.extract 0 a.length).size=a.length:=by rw[<-bj,zp]
    obtain⟨fn,tmps,assign,body,hy,hR⟩:=hY pre b S1 wr hx hj ab ay;have oK:Sem.run prog (Instr.yield l #[.string (r.extract (a.length+1) r.size)]) wr = .ok (.round l fn tmps assign body) wr:=by
     have:aI b = .string (r.extract (a.length+1) r.size):=by show Value.string _=_;congr 1;exact iC (by rw[uq])
     simp only[this] at hy;exact hy
    clear hy;have HX:=jq hx;have HS:=jq bU;have HA:=jq zp;have DS:=jq Rh;clear hx bU uq zp Rh kg wM;have iN:a.length<=140737488355328:=by omega
    have ajZ:a.length+1<=r.size:=by omega
    have H2:=jq mb;clear mb;gi_wp2_with fail;refine⟨rfl,hR.mono ?_⟩;rintro e W3 ⟨S3,bJ,uj,ua,(⟨rfl,Bz⟩ | ⟨rfl,BA⟩)⟩
    ·have hrs:=bJ.size;gi_wp2_with fail;go_roundw
     case rel=>
      refine⟨pre ++ [b],r.extract 0 a.length,S3,rfl,by rw[DS.out];exact iN,?_,Bz,ua,by omega,λk e=>?_⟩
      ·rw[HP.out,HS.out,HA.out];simp
      ·rcases uj k e with e | e
       ·exact bR k e
       ·right;omega
     case measure=>show (r.extract 0 a.length).size<r.size;rw[DS.out];omega
    ·gi_wp2_with fail;refine bodyPost_ret (results_none rfl _ _ _) rfl ?_;refine⟨⟨_,rfl⟩,.inr ⟨_,S3,HX.out,BA,λk e=>?_⟩⟩;rcases uj k e with e | e
     ·exact bR k e
     ·right;omega
end D
section
open Go.RowKit
structure ItStep(B:Nat)(S:Nat->Prop)(W W':World):Prop where
 os:W'.os=W.os
 tape:W'.tape=W.tape
 output:W'.output=W.output
 size:W.heap.size<=W'.heap.size
 keep:∀ k,k<W.heap.size->(k<B\/S k)->W'.heap[k]?=W.heap[k]?
structure RdStep(S:Nat->Prop)(W W':World):Prop where
 os:W'.os=W.os
 tape:W'.tape=W.tape
 output:W'.output=W.output
 size:W.heap.size<=W'.heap.size
 keep:∀ k,k<W.heap.size->¬ S k->W'.heap[k]?=W.heap[k]?
theorem ItStep.refl(B:Nat)(S:Nat->Prop)(W:World):ItStep B S W W:=⟨rfl,rfl,rfl,bQ _,λ_ _ _=>rfl⟩
theorem RdStep.refl(S:Nat->Prop)(W:World):RdStep S W W:=⟨rfl,rfl,rfl,bQ _,λ_ _ _=>rfl⟩
theorem ItStep.trans{B:Nat}{S:Nat->Prop}{A W C:World}(h:ItStep B S A W)(k:ItStep B S W C):ItStep B S A C:=
 ⟨k.os.trans h.os,k.tape.trans h.tape,k.output.trans h.output,yQ h.size k.size,λi hi hs=>(k.keep i (lQ hi h.size) hs).trans (h.keep i hi hs)⟩
theorem RdStep.trans{S S':Nat->Prop}{A W C:World}(h:RdStep S A W)(k:RdStep S' W C)(hS:∀ i,S' i->S i\/A.heap.size<=i):RdStep S A C:=
 ⟨k.os.trans h.os,k.tape.trans h.tape,k.output.trans h.output,yQ h.size k.size,λi hi hs=>
  (k.keep i (lQ hi h.size) (λe=>by rcases hS i e with e | e;exact hs e;omega)).trans (h.keep i hi hs)⟩
theorem RdStep.mono{S S':Nat->Prop}{A W:World}(h:RdStep S A W)(hS:∀ i,S i->S' i):RdStep S' A W:=
 ⟨h.os,h.tape,h.output,h.size,λi hi hs=>h.keep i hi (λe=>hs (hS i e))⟩
theorem ItStep.of_below{B:Nat}{S:Nat->Prop}{A W:World}(h:Below A.heap.size A W):ItStep B S A W:=
 ⟨h.os,h.tape,h.output,h.size,λk hk _=>h.block k hk⟩
theorem RdStep.of_below{S:Nat->Prop}{A W:World}(h:Below A.heap.size A W):RdStep S A W:=
 ⟨h.os,h.tape,h.output,h.size,λk hk _=>h.block k hk⟩
theorem RdStep.below{S:Nat->Prop}{A W:World}{n:Nat}(h:RdStep S A W)(hn:n<=A.heap.size)(hS:∀ k,S k->n<=k):Below n A W:=
 ⟨h.os,h.tape,h.output,h.size,λk hk=>h.keep k (by omega) (λe=>by have:=hS k e;omega)⟩
theorem RdStep.setCell{S:Nat->Prop}{A W:World}(h:RdStep S A W){p:Addr}(hp:S p.block\/A.heap.size<=p.block)(u:Value):RdStep S A (W.setCell p u):=
 ⟨h.os,h.tape,h.output,by simpa [World.setCell] using h.size,λk hk hs=>(wQ _ _ _ _ (by rintro rfl;rcases hp with hp | hp;exact hs hp;omega)).trans (h.keep k hk hs)⟩
theorem RdStep.alloc{S:Nat->Prop}{A W:World}(h:RdStep S A W)(o:Obj):RdStep S A (W.alloc o):=
 ⟨h.os,h.tape,h.output,yQ h.size (by simp),λk hk hs=>(Below.heap_alloc _ _ _ (lQ hk h.size)).trans (h.keep k hk hs)⟩
theorem RdStep.drew{S:Nat->Prop}{A W:World}(h:RdStep S A W):RdStep S A W.drew:=⟨h.os,h.tape,h.output,h.size,h.keep⟩
theorem RdStep.grown{S:Nat->Prop}{A W C:World}{row:Option Nat}(h:RdStep S A W)(hg:W.grownBy C row)(hr:∀ k,row=some k->S k\/A.heap.size<=k):RdStep S A C:=
 ⟨hg.os.trans h.os,hg.tape.trans h.tape,hg.output.trans h.output,yQ h.size hg.size,λk hk hs=>
  (hg.block k (lQ hk h.size) (λe=>by rcases hr k e.symm with e' | e';exact hs e';omega)).trans (h.keep k hk hs)⟩
theorem RdStep.then_below{S:Nat->Prop}{A W C:World}(h:RdStep S A W)(k:Below W.heap.size W C):RdStep S A C:=
 ⟨k.os.trans h.os,k.tape.trans h.tape,k.output.trans h.output,yQ h.size k.size,λi hi hs=>(k.block i (lQ hi h.size)).trans (h.keep i hi hs)⟩
def fO{β:Type}(B:Nat)(J:β->(Nat->Prop)->World->Prop):Prop:=∀ s S W W',J s S W->ItStep B S W W'->J s S W'
def D9{α:Type}(J Jx:List α->(Nat->Prop)->World->Prop)(pre:List α)(x:α)(S:Nat->Prop)(W:World)(e:Ending)(W':World):Prop:=
 ∃ S':Nat->Prop,RdStep S W W'/\(∀ k,S' k->S k\/W.heap.size<=k)/\(∀ k,S' k->k<W'.heap.size)/\
   ((e = .returned (.bool true)/\J (pre ++ [x]) S' W')\/(e = .returned (.bool false)/\Jx (pre ++ [x]) S' W'))
def D6{α:Type}(P:Program)(gf:FuncId)(mk:Value->Array Value)(encs:α->Array Value)(xs:List α)(n₀:Nat)(w:World):Prop:=
 ∀ (l:Nat) (J Jx:List α->(Nat->Prop)->World->Prop) (S:Nat->Prop) (W:World),Below n₀ w W->
   fO W.heap.size J->fO W.heap.size Jx->
   (∀ pre x S1 W1,pre ++ [x] <+: xs->J pre S1 W1->(∀ k,S1 k->k<W1.heap.size)->W.heap.size<=W1.heap.size->
     YieldAt Fence.wide 0 P l (encs x) W1 (D9 J Jx pre x S1 W1))->
   (∀ k,S k->n₀<=k)->(∀ k,S k->k<W.heap.size)->J [] S W->
   CallsIn Fence.wide 0 P gf (mk (.func (.yield l) #[] #[])) W λe W'=>(∃ v,e = .returned v)/\
    ((∃ S',J xs S' W'/\(∀ k,S' k->S k\/W.heap.size<=k))\/(∃ pre S',pre <+: xs/\Jx pre S' W'/\(∀ k,S' k->S k\/W.heap.size<=k)))
def qG{α:Type}(I:List α->(Nat->Prop)->World->Prop)(Ix:Code->List α->(Nat->Prop)->World->Prop)(xs:List α)(S:Nat->Prop)(W:World):Exit->Act->World->Prop
 | .normal,_,W'=>∃ S',RdStep S W W'/\(∀ k,S' k->S k\/W.heap.size<=k)/\(∀ k,S' k->k<W'.heap.size)/\I xs S' W'
 | .ret,_,W'=>∃ S',RdStep S W W'/\(∀ k,S' k->S k\/W.heap.size<=k)/\(∀ k,S' k->k<W'.heap.size)/\Ix .ret xs S' W'
 | .exit id,_,W'=>∃ S',RdStep S W W'/\(∀ k,S' k->S k\/W.heap.size<=k)/\(∀ k,S' k->k<W'.heap.size)/\Ix (.exit id) xs S' W'
 | _,_,_=>False
theorem nM{B:Nat}{S:Nat->Prop}{W:World}{l:Nat}(o:Obj)(hl:B<=l)(hS:¬ S l):ItStep B S W (W.putObj l o):=
 ⟨rfl,rfl,rfl,by simp,λk _ hk=>zQ (by rintro rfl;rcases hk with hk | hk;omega;exact hS hk)⟩
theorem zz{B:Nat}{S:Nat->Prop}{W:World}(o:Obj):ItStep B S W (W.alloc o):=
 ⟨rfl,rfl,rfl,by simp,λk hk _=>Below.heap_alloc _ _ _ hk⟩
theorem ItStep.weaken{B B':Nat}{S S':Nat->Prop}{W W':World}(h:ItStep B S W W')(hB:B'<=B)(hS:∀ k,S' k->S k):ItStep B' S' W W':=
 ⟨h.os,h.tape,h.output,h.size,λk hk hs=>h.keep k hk (hs.imp (λe=>by omega) (hS k))⟩
theorem iK{B:Nat}{S:Nat->Prop}{W W':World}{b:Nat}{t:TypeId}{v:Value}(h:Boxed W b t v)(hs:ItStep B S W W')(hb:S b):Boxed W' b t v:=(hs.keep b h.lt (.inr hb)).trans h
theorem qF{n B:Nat}{S:Nat->Prop}{w W W':World}(h:Below n w W)(hs:ItStep B S W W')(hB:n<=B)(hn:n<=w.heap.size):Below n w W':=
 ⟨hs.os.trans h.os,hs.tape.trans h.tape,hs.output.trans h.output,yQ h.size hs.size,λk hk=>(hs.keep k (by have:=h.size;omega) (.inl (by omega))).trans (h.block k hk)⟩
theorem ej{n:Nat}{W W':World}{b:Nat}{t:TypeId}{v:Value}(h:Boxed W b t v)(hs:Below n W W')(hb:b<n):Boxed W' b t v:=(hs.block b hb).trans h
theorem eP{W:World}{b:Nat}{t:TypeId}{v:Value}(h:Boxed W b t v){p:Addr}(hp:b≠p.block)(u:Value):Boxed (W.setCell p u) b t v:=(wQ W p u b hp).trans h
theorem nf{P:Program}{fn:Func}{R:Ending->World->Prop}{tmps:Array Value}{w:World}{v:Value}(nJ:(results fn tmps).run P w = .ok v w)(hR:R (.returned v) w) :
 bodyPostM Fence.wide 0 P fn R .ret { tmps:=tmps,defers:=[] } w:=⟨_,nJ,hR⟩
theorem mv{P:Program}{fn:Func}{R:Ending->World->Prop}{tmps:Array Value}{W:World}{D:Nat}{v:Value}(hK:W.heap[D]?=some (.deferred (some [])))
 (nJ:(results fn tmps).run P (W.putObj D (.deferred none)) = .ok v (W.putObj D (.deferred none))) (hR:R (.returned v) (W.putObj D (.deferred none))) :
 bodyPostM Fence.wide 0 P fn R .ret { tmps:=tmps,defers:=[{ target:=.collected D,args:=#[] }] } W:=
 ⟨by simp,.inl ⟨_,_,rfl,run_takeDeferred hK,_,nJ,hR⟩⟩
theorem lT{n D:Nat}{w W:World}(h:Below n w W)(hD:n<=D)(o:Obj):Below n w (W.putObj D o):=
 ⟨h.os,h.tape,h.output,by simpa using h.size,λk hk=>(zQ (by omega)).trans (h.block k hk)⟩
theorem rJ{W:World}{b D:Nat}{t:TypeId}{v:Value}(h:Boxed W b t v)(hD:b≠D)(o:Obj):Boxed (W.putObj D o) b t v:=(zQ hD).trans h
theorem ahQ{n:Nat}{W W':World}{b:Nat}{t:TypeId}{v:Value}(h:Boxed W b t v)(hs:Below n W W')(hb:b<n:=by omega):Boxed W' b t v:=ej h hs hb
end
section
open Go.RowKit Go.Shelf
attribute [local go_sem] Oper.semAt_some
abbrev aI(l:List UInt8):Value:=.string ⟨l.toArray⟩
end
namespace D
open Go.RowKit Go.Shelf
attribute [local go_sem] Oper.semAt_some
def uC(pre:List (List UInt8)):Bool:=pre.getLast? == some [42]
def Ec(w:World)(xs:List (List UInt8))(pre:List (List UInt8))(S:Nat->Prop)(W:World):Prop:=
 (∀ k,S k↔k=w.heap.size\/k=w.heap.size+1\/k=w.heap.size+1+1)/\Boxed W w.heap.size 4 (.bool false)/\Boxed W (w.heap.size+1) 3 (.int .i64 pre.length)/\Boxed W (w.heap.size+1+1) 4 (.bool (uC pre))/\
 (pre.length<=8/\∀ rest,xs=pre++rest->Np.fl xs 0 false=Np.fl rest pre.length (uC pre))/\Below w.heap.size w W
def Ed(w:World)(xs:List (List UInt8))(c:Code)(_:List (List UInt8))(S:Nat->Prop)(W:World):Prop:=
 c = .ret/\(∀ k,S k↔k=w.heap.size\/k=w.heap.size+1\/k=w.heap.size+1+1)/\Boxed W w.heap.size 4 (.bool false)/\Np.fl xs 0 false=false/\Below w.heap.size w W
theorem T9(w:World)(xs:List (List UInt8))(B:Nat)(hB:w.heap.size<=B):fO B (Ec w xs):=by
 rintro s S W W' ⟨hS,h1,h2,h3,h4,h5⟩ ax;exact⟨hS,iK h1 ax ((hS _).2 (.inl rfl)),iK h2 ax ((hS _).2 (.inr (.inl rfl))),iK h3 ax ((hS _).2 (.inr (.inr rfl))),h4,qF h5 ax hB (bQ _)⟩
theorem bnQ(w:World)(xs:List (List UInt8))(B:Nat)(hB:w.heap.size<=B)(c:Code):fO B (Ed w xs c):=by
 rintro s S W W' ⟨hc,hS,h1,h4,h5⟩ ax;exact⟨hc,hS,iK h1 ax ((hS _).2 (.inl rfl)),h4,qF h5 ax hB (bQ _)⟩
theorem LJ{w:World}{xs pre:List (List UInt8)}{S:Nat->Prop}{W W3:World}{a:Act}(hS:∀ k,S k↔k=w.heap.size\/k=w.heap.size+1\/k=w.heap.size+1+1)
 (hr:RdStep S W W3) (ab:∀ k,S k->k<W.heap.size) (c0:Boxed W3 w.heap.size 4 (.bool false)) (hB:Below w.heap.size w W3) (hg:Np.fl xs 0 false=false) :
 qG (Ec w xs) (Ed w xs) pre S W .ret a (W3.setCell ⟨w.heap.size,0,none⟩ (.bool false)):=
 ⟨S,hr.setCell (.inl ((hS _).2 (.inl rfl))) _,λ_ e=>.inl e,λk e=>by have:=ab k e;have:=hr.size;simp[World.setCell];omega,rfl,hS,c0.set _,hg,hB.setCell (bQ _) _⟩
theorem Ua{w:World}{xs pre rest:List (List UInt8)}{x:List UInt8}{S:Nat->Prop}{W W3:World}{a:Act}(hS:∀ k,S k↔k=w.heap.size\/k=w.heap.size+1\/k=w.heap.size+1+1)
 (hr:RdStep S W W3) (ab:∀ k,S k->k<W.heap.size) (c0:Boxed W3 w.heap.size 4 (.bool false)) (c1:Boxed W3 (w.heap.size+1) 3 (.int .i64 (pre.length+1))) (c2:Boxed W3 (w.heap.size+1+1) 4 (.bool (x == [42])))
 (hB:Below w.heap.size w W3) (sF:pre ++ [x]++rest=xs) (hl:pre.length+1<=8) (hg:Np.fl xs 0 false=Np.fl rest (pre.length+1) (x == [42])) :
 qG (Ec w xs) (Ed w xs) (pre ++ [x]) S W .normal a W3:=by
 have hw:uC (pre ++ [x])=(x == [42]):=by simp[uC]
 refine⟨S,hr,λ_ e=>.inl e,λk e=>by have:=ab k e;have:=hr.size;omega,hS,c0,by simpa using c1,by rw[hw];exact c2,⟨by simpa using hl,λr h=>?_⟩,hB⟩
 have:r=rest:=List.append_cancel_left (h.symm.trans sF.symm)
 rw[hg,this,hw];simp
theorem valid_any(t:ByteArray)(ht:t.size<=140737488355328)(w:World) :
 Calls prog 175 #[.string t] w λe w'=>e = .returned (.bool (Np.al t.data.toList))/\Below w.heap.size w w':=by
 refine (callsIn_wide (n:=0)).1 ?_;refine callsIn_of_wp_marks func175 rfl trivial ?_ rfl;simp only[ntmps175,List.size_toArray,List.length_cons,List.length_nil,Nat.reduceAdd,Nat.reduceSub,Array.replicate_succ,Array.replicate_zero,List.push_toArray,List.append_toArray,List.nil_append,List.cons_append];gi_wp2_with fail
 ·have he:(t.toList == [46])=true:=by assumption
  have my:t.data.toList = [46]:=by rw[<-dQ];simpa using he
  exact nf (v:=.bool true) (by simp[results,results175,go_sem]) ⟨by rw[Np.al,Qb my],(vQ _ _).alloc (bQ _) _⟩
 ·have he:(t.toList == [46])=false:=by assumption
  have my:¬ t.data.toList = [46]:=by rw[<-dQ];simpa using he
  have hl:60<(t.size:Int):=by assumption
  exact nf (v:=.bool false) (by simp[results,results175,go_sem]) ⟨by rw[Np.al,Qc my,Qb (by rw[bj];omega)],(vQ _ _).alloc (bQ _) _⟩
 ·have he:(t.toList == [46])=false:=by assumption
  have my:¬ t.data.toList = [46]:=by rw[<-dQ];simpa using he
  have hl:(t.size:Int)<=60:=by assumption
  have hv:Np.al t.data.toList=Np.fl (Np.bI t.data.toList) 0 false:=by
   rw[Np.al,Qc my,Qc (by rw[bj];omega),Np.bI,Qc my]
  have HV:=jq hv;clear hv;have b0:=Boxed.new w 4 (.bool false);have b1:=Boxed.new (w.alloc (.cells #[.bool false] 4)) 3 (.int .i64 0);have b2:=Boxed.new ((w.alloc (.cells #[.bool false] 4)).alloc (.cells #[.int .i64 0] 3)) 4 (.bool false);simp only[World.size_alloc] at b1 b2;refine LU (n₀:=w.heap.size) (w0:=w) (first:=#[.string t]) (captured:=#[]) (gf:=215) rfl (enters_of func215 (by kernel_rfl) rfl) (mk:=λy=>#[.string t,y]) (λ_=>rfl)
   (IR t ht _ w) ((((vQ _ w).alloc (bQ _) _).alloc (by simp) _).alloc (by simp;omega) _) (by simp;omega) (λ_=>rfl) (Ec w (Np.bI t.data.toList)) (Ed w (Np.bI t.data.toList))
   (T9 _ _ _ (by simp;omega)) (λc=>bnQ _ _ _ (by simp;omega) c)
   (λk=>k=w.heap.size\/k=w.heap.size+1\/k=w.heap.size+1+1) (by intro k h;omega) (by intro k h;simp;omega)
   ⟨λ_=>Iff.rfl,(b0.alloc _).alloc _,b1.alloc _,b2,⟨by simp,λrest h=>by rw[h];rfl⟩,(((vQ _ w).alloc (bQ _) _).alloc (by simp) _).alloc (by simp;omega) _⟩ ?round ?done ?stop
  case round=>
   rintro l0 pre x S W bM hI ed;gi_wp2;refine⟨S,RdStep.refl _ _,λk e=>.inl e,ed,?_⟩;intro l W₂ ax;obtain⟨hS,c0,c1,c2,hg,hB⟩:=T9 w _ _ (by simp;omega) pre S W W₂ hI ax;have c0c:=c0.cell;have c1c:=c1.cell;have c2c:=c2.cell;have c0f:=c0.frozen;have c1f:=c1.frozen;have c2f:=c2.frozen;have hlen:=hg.1;have hx:x∈Np.bI t.data.toList:=bM.subset (by simp);have ur:x.length<=60:=by have:=Np.Bi hx;rw[bj] at this;omega
   have lz:(⟨x.toArray⟩:ByteArray).size<=140737488355328:=by rw[<-bj];simp;omega
   obtain⟨rest,sF⟩:=bM;have jL:Np.fl (Np.bI t.data.toList) 0 false=Np.fl (x::rest) pre.length (uC pre):=hg.2 _ (by rw[<-sF];simp);have HR:=jq sF;have HG:=jq jL;have BP:∀ (b:Nat) (u:Value),w.heap.size<=b->Below w.heap.size w (W₂.setCell ⟨b,0,none⟩ u):=λb u hb=>hB.setCell (p:=⟨b,0,none⟩) hb u;have iM:∀ k,S k->k<W₂.heap.size:=λk e=>lQ (ed k e) ax.size;clear sF jL hg hx;gi_wp2_with (refine⟨trivial,rfl,?_⟩;gi_at_call 245;refine (CallsIn.inRound l (callsIn_wide.2 (CR _ lz _))).mono ?_;rintro e w' ⟨rfl,rfl⟩)
   ·exact LJ hS (RdStep.setCell (RdStep.refl S W₂) (p:=⟨w.heap.size+1,0,none⟩) (.inl ((hS _).2 (.inr (.inl rfl)))) _) iM (eP c0 (p:=⟨w.heap.size+1,0,none⟩) (by simp) _) (BP _ _ (by omega))
     (by rw[HG.out];have:uC pre=true:=by assumption
         simp[Np.fl,this])
   ·exact LJ hS (RdStep.setCell (RdStep.refl S W₂) (p:=⟨w.heap.size+1,0,none⟩) (.inl ((hS _).2 (.inr (.inl rfl)))) _) iM (eP c0 (p:=⟨w.heap.size+1,0,none⟩) (by simp) _) (BP _ _ (by omega))
     (by rw[HG.out];have:8<pre.length+1:=by omega
         simp[Np.fl,this])
   ·have dO:x = [42]:=by assumption
    have e:(x == [42])=true:=by simp[dO]
    have fF:(pre.length:Int)+1<=8:=by assumption
    have h1:¬ uC pre=true:=by assumption
    have h2:¬ 8<pre.length+1:=by omega
    refine⟨trivial,?_⟩;gi_wp2;exact Ua hS (RdStep.setCell (RdStep.setCell (RdStep.refl S W₂) (p:=⟨w.heap.size+1,0,none⟩) (.inl ((hS _).2 (.inr (.inl rfl)))) _) (p:=⟨w.heap.size+1+1,0,none⟩) (.inl ((hS _).2 (.inr (.inr rfl)))) _) iM
     (eP (eP c0 (p:=⟨w.heap.size+1,0,none⟩) (by simp) _) (p:=⟨w.heap.size+1+1,0,none⟩) (by simp<;>omega) _)
     (eP (c1.set _) (p:=⟨w.heap.size+1+1,0,none⟩) (by simp<;>omega) _) (by rw[e];exact (eP c2 (p:=⟨w.heap.size+1,0,none⟩) (by simp) _).set _)
     ((BP _ _ (by omega)).setCell (p:=⟨w.heap.size+1+1,0,none⟩) (by simp;omega) _) HR.out (by omega) (by rw[HG.out];simp[Np.fl,h1,h2,dO])
   ·have hl:(!x == [42])=true/\(!Np.bX x)=true:=by assumption
    have dO:¬ x = [42]:=by assumption
    exact LJ hS (RdStep.setCell (RdStep.setCell (RdStep.refl S W₂) (p:=⟨w.heap.size+1,0,none⟩) (.inl ((hS _).2 (.inr (.inl rfl)))) _) (p:=⟨w.heap.size+1+1,0,none⟩) (.inl ((hS _).2 (.inr (.inr rfl)))) _) iM
     (eP (eP c0 (p:=⟨w.heap.size+1,0,none⟩) (by simp) _) (p:=⟨w.heap.size+1+1,0,none⟩) (by simp<;>omega) _)
     ((BP _ _ (by omega)).setCell (p:=⟨w.heap.size+1+1,0,none⟩) (by simp;omega) _)
     (by rw[HG.out];have h2:Np.bX x=false:=by simpa using hl.2
         simp[Np.fl,dO,h2])
   ·have hl:(!x == [42])=false\/(!Np.bX x)=false:=by assumption
    have dO:¬ x = [42]:=by assumption
    have e:(x == [42])=false:=by simp[dO]
    have fF:(pre.length:Int)+1<=8:=by assumption
    have h1:¬ uC pre=true:=by assumption
    have h2:¬ 8<pre.length+1:=by omega
    have h3:Np.bX x=true:=by simpa [e] using hl
    exact Ua hS (RdStep.setCell (RdStep.setCell (RdStep.refl S W₂) (p:=⟨w.heap.size+1,0,none⟩) (.inl ((hS _).2 (.inr (.inl rfl)))) _) (p:=⟨w.heap.size+1+1,0,none⟩) (.inl ((hS _).2 (.inr (.inr rfl)))) _) iM
     (eP (eP c0 (p:=⟨w.heap.size+1,0,none⟩) (by simp) _) (p:=⟨w.heap.size+1+1,0,none⟩) (by simp<;>omega) _)
     (eP (c1.set _) (p:=⟨w.heap.size+1+1,0,none⟩) (by simp<;>omega) _) ((eP c2 (p:=⟨w.heap.size+1,0,none⟩) (by simp) _).set _)
     ((BP _ _ (by omega)).setCell (p:=⟨w.heap.size+1+1,0,none⟩) (by simp;omega) _) HR.out (by omega) (by rw[HG.out];simp[Np.fl,h1,h2,dO,h3,e])
  case done=>
   rintro D S W hD el bR ⟨hS,c0,c1,c2,hg,hB⟩ hK;have c0c:=c0.cell;have c0f:=c0.frozen;have rZ:Np.fl (Np.bI t.data.toList) 0 false=true:=by rw[hg.2 [] (by simp)];rfl
   have Ez:w.heap.size≠D:=λe=>el ((hS _).2 (.inl e.symm));clear hg;have HE:=jq rZ;clear rZ;gi_wp2;have hK':(W.setCell ⟨w.heap.size,0,none⟩ (.bool true)).heap[D]?=some (.deferred (some [])):=(wQ _ _ _ _ (by simpa using Ez.symm)).trans hK;have c5:=(rJ (c0.set (.bool true)) Ez (.deferred none)).cell;exact mv hK' (v:=.bool true) (by simp[results,results175,go_sem,c5]) ⟨by rw[HV.out,HE.out],lT (hB.setCell (bQ _) _) (by simp at hD;omega) _⟩
  case stop=>
   rintro D c pre S W hD el bR g8 ⟨rfl,hS,c0,hg,hB⟩ hK;have Ez:w.heap.size≠D:=λe=>el ((hS _).2 (.inl e.symm));have HE:=jq hg;clear hg;gi_wp2;have c5:=(rJ c0 Ez (.deferred none)).cell;exact mv hK (v:=.bool false) (by simp[results,results175,go_sem,c5]) ⟨by rw[HV.out,HE.out],lT hB (by simp at hD;omega) _⟩
theorem nameValid_any(t:ByteArray)(ht:t.size<=140737488355328)(w:World) :
 Calls prog 105 #[.string t] w λe w'=>e = .returned (.bool (Np.al t.data.toList))/\Below w.heap.size w w':=by
 go_enter func105,ntmps105;go_wp2_with (go_at_call 175;refine (valid_any _ ht _).mono ?_;rintro e w' ⟨rfl,hb⟩);go_ret;exact⟨rfl,hb⟩
end D
section
open Go.RowKit
theorem valid_any(t:ByteArray)(ht:t.size<=140737488355328)(w:World) :
 Calls prog 175 #[.string t] w (ahZ w.heap.size w (.bool (Np.al t.data.toList))):=
 (D.valid_any t ht w).mono λ_ _ h=>⟨h.1,h.2.low⟩
theorem nameValid_any(t:ByteArray)(ht:t.size<=140737488355328)(w:World) :
 Calls prog 105 #[.string t] w (ahZ w.heap.size w (.bool (Np.al t.data.toList))):=
 (D.nameValid_any t ht w).mono λ_ _ h=>⟨h.1,h.2.low⟩
theorem LT(x lo hi:Int)(w:World) :
 Calls prog 228 #[.int .i64 x,.int .i64 lo,.int .i64 hi] w (ahY w (.bool (decide (lo<=x)&&decide (x<=hi)))):=by
 by_cases h1:lo<=x
 all_goals
  go_enter func228,ntmps228;go_wp2;go_ret;exact⟨ag (by simp;omega),rfl⟩
theorem Sb(s:ByteArray)(h:1<=s.size):((s.extract 0 1).toList == [42])=Np.eH s.data.toList:=by
 rw[dQ,I5];unfold Np.eH;have hl:1<=s.data.toList.length:=by rw[bj];exact h
 cases hd:s.data.toList with
 | nil=>rw[hd] at hl;simp at hl
 | cons a r=>rw[Bool.eq_iff_iff];simp
theorem Sc(s:ByteArray)(hs:s.size<=140737488355328)(w:World) :
 Calls prog 229 #[.string s] w (ahY w (.bool (Np.eH s.data.toList))):=by
 have h1:1<=s.size->((s.extract 0 1).toList == [42])=Np.eH s.data.toList:=Sb s;have h2:s.size<1->Np.eH s.data.toList=false:=λh=>by
  have:s.data.toList = []:=rQ (by rw[bj];omega)
  rw[this];rfl
 have H1:=jq h1;have H2:=jq h2;clear h1 h2;go_enter func229,ntmps229;go_wp2
 ·go_ret;exact⟨ag (H1.out (by omega)),rfl⟩
 ·go_ret;exact⟨ag (H2.out (by omega)).symm,rfl⟩
theorem Y0(s t:ByteArray)(w:World) :
 Calls prog 303 #[.string s,.string t] w (ahY w (.int .i64 (Np.cE s.data.toList t.data.toList))):=by
 go_enter func303,ntmps303;go_wp2
 ·have h:Op.bytesLess s.toList t.toList=true:=by assumption
  simp only[dQ] at h;go_ret;exact⟨iB (by simp[Np.cE,h]),rfl⟩
 ·have h:Op.bytesLess s.toList t.toList=false:=by assumption
  have h2:(!s.toList == t.toList)=true:=by assumption
  simp only[dQ] at h h2;have h3:¬ s.data.toList=t.data.toList:=by simpa using h2
  go_ret;exact⟨iB (by rw[Np.cE,Qc (by simp[h]),Qc h3]),rfl⟩
 ·have h:Op.bytesLess s.toList t.toList=false:=by assumption
  have h2:(!s.toList == t.toList)=false:=by assumption
  simp only[dQ] at h h2;have h3:s.data.toList=t.data.toList:=by simpa using h2
  go_ret;exact⟨iB (by rw[Np.cE,Qc (by simp[h]),Qb h3]),rfl⟩
theorem Bm(s t:Int)(w:World) :
 Calls prog 123 #[.int .i64 s,.int .i64 t] w (ahY w (.int .i64 (Np.cL s t))):=by
 go_enter func123,ntmps123;go_wp2
 ·go_ret;exact⟨iB (by rw[Np.cL,Qb ‹_›]),rfl⟩
 ·go_ret;exact⟨iB (by rw[Np.cL,Qc (by omega),Qb ‹_›]),rfl⟩
 ·go_ret;exact⟨iB (by rw[Np.cL,Qc (by omega),Qc (by omega)]),rfl⟩
theorem Es(c:UInt8):Np.ot c=decide ((97<=(c.toNat:Int)/\(c.toNat:Int)<=122)\/(48<=(c.toNat:Int)/\(c.toNat:Int)<=57)\/(c.toNat:Int)=32):=by
 have h:=oU c 32 (by decide);unfold Np.ot Np.q9 Np.nL;rw[show (32:UInt8)=UInt8.ofNat 32 from rfl,h,Bool.eq_iff_iff];simp[UInt8.le_iff_toNat_le];omega
theorem R4(s:ByteArray)(h:(s.size:Int)<1):Np.jT s.data.toList=false:=by
 have:¬ 1<=s.size:=by omega
 simp[Np.jT,this]
theorem R5(s:ByteArray)(h:40<(s.size:Int)):Np.jT s.data.toList=false:=by
 have:¬ s.size<=40:=by omega
 simp[Np.jT,this]
theorem R6(s:ByteArray)(h0:0<s.size)(h:(s[0].toNat:Int)=32):Np.jT s.data.toList=false:=by
 have e:=oU s[0] 32 (by decide);rw[uQ (by simpa using h)] at e;have e2:s[0]=(32:UInt8):=by simpa using e
 simp[Np.jT,B0 s h0,e2]
theorem R7(s:ByteArray)(h0:s.size - 1<s.size)(h:(s[s.size - 1].toNat:Int)=32):Np.jT s.data.toList=false:=by
 have e:=oU s[s.size - 1] 32 (by decide);rw[uQ (by simpa using h)] at e;have e2:s[s.size - 1]=(32:UInt8):=by simpa using e
 simp[Np.jT,Fv s h0,e2]
theorem R8(s:ByteArray)(k:Nat)(hk:k<s.size)(h:Np.ot s[k]=false):Np.jT s.data.toList=false:=by
 have:s.data.toList.all Np.ot=false:=by
  rw[List.all_eq_false];exact⟨s[k],by rw[<-cQ.1 (yF s k hk) |>.2];exact List.getElem_mem _,by simp[h]⟩
 simp[Np.jT,this]
theorem R9(s:ByteArray)(h1:1<=s.size)(h2:s.size<=40)(h3:¬ (s[0].toNat:Int)=32)(h4:¬ (s[s.size - 1].toNat:Int)=32)(h5:s.data.toList.all Np.ot=true):Np.jT s.data.toList=true:=by
 have e:=oU s[0] 32 (by decide);have e':=oU s[s.size - 1] 32 (by decide);rw[tQ (by simpa using h3)] at e;rw[tQ (by simpa using h4)] at e';have e2:¬ s[0]=(32:UInt8):=by simpa using e
 have e3:¬ s[s.size - 1]=(32:UInt8):=by simpa using e'
 simp[Np.jT,Fv s (by omega),B0 s (by omega),e2,e3,h5,h1,h2]
theorem aIJ(s:ByteArray)(hs:s.size<=140737488355328)(w:World) :
 Calls prog 301 #[.string s] w (ahY w (.bool (Np.jT s.data.toList))):=by
 ·go_enter func301,ntmps301;go_wp2
  rotate_right
  ·go_ret;exact⟨ag (R4 s ‹_›).symm,rfl⟩
  ·go_ret;exact⟨ag (R5 s ‹_›).symm,rfl⟩
  ·go_ret;exact⟨ag (R6 s ‹_› ‹_›).symm,rfl⟩
  ·have h:((s[s.size - 1].toNat:Int) == 32)=true:=by assumption
   go_ret;exact⟨ag (R7 s (by omega) (by simpa using h)).symm,rfl⟩
  ·have h2:(s.size:Int)<=40:=by assumption
   have h3:¬ (s[0].toNat:Int)=32:=by assumption
   have h4:((s[s.size - 1].toNat:Int) == 32)=false:=by assumption
   have H4:=jq h4;clear h4;have H3:=jq h3;go_loop [24] (λi=>∃ k:Nat,k<=s.size/\i = .int .i64 k/\(s.data.toList.take k).all Np.ot=true) (λi=>s.size - (intOf i).toNat)
   case atStart=>exact⟨0,jQ _,rfl,rfl⟩
   case round=>
    obtain⟨k,hk,rfl,ha⟩:=hrel;have HA:=jq ha;clear ha;by_cases ab:k<s.size
    ·have hb:=zL s[k];by_cases hf:(97<=(s[k].toNat:Int)/\(s[k].toNat:Int)<=122)\/(48<=(s[k].toNat:Int)/\(s[k].toNat:Int)<=57)\/(s[k].toNat:Int)=32
     ·have hl:Np.ot s[k]=true:=by rw[Es];exact uQ hf
      have HL:=jq hl;clear hl;go_wp2
      all_goals first
       | (go_round
          case rel=>exact⟨k+1,by omega,by go_num,IM s k ab _ HA.out HL.out⟩
          case measure=>simp[intOf]<;>omega)
       | (exfalso
          have hne:((s[k].toNat:Int) != 32)=true:=by assumption
          have Cn:=bne_iff_ne.1 hne;omega)
     ·have hl:Np.ot s[k]=false:=by rw[Es];exact tQ hf
      have HL:=jq hl;clear hl;go_wp2
      all_goals first
       | (go_ret;exact⟨ag (R8 s k ab HL.out).symm,rfl⟩)
       | (exfalso;omega)
       | (exfalso
          have hne:((s[k].toNat:Int) != 32)=false:=by assumption
          have Cn:(s[k].toNat:Int)=32:=by simpa using hne
          omega)
    ·go_wp2;go_ret;exact⟨ag (R9 s (by omega) (by omega) H3.out (by simpa using H4.out) (by have:=HA.out;rwa [Gg s k (by omega)] at this)).symm,rfl⟩
end
namespace Np
def cls(c:UInt8):Nat:=
 if c=32\/c=9\/c=10 then 1 else if c=35 then 2 else if q9 c||nL c||c == 42 then 3 else if c=45 then 4 else if c=46 then 5 else if c=34 then 6
 else if c=123\/c=125\/c=59\/c=44\/c=61\/c=64 then 7 else 0
def sT(c:UInt8):Bool:=cls c == 3||cls c == 4||cls c == 5
def SD(c:UInt8):Bool:=c != 10
def K0(c:UInt8):Bool:=c != 34&&c != 10
def a0J(r:List UInt8):Nat:=if 1<=(r.takeWhile K0).length/\r[(r.takeWhile K0).length]?=some 34 then (r.takeWhile K0).length+2 else 0
def Uf:List UInt8->Nat
 | []=>0
 | c::r=>match cls c with
   | 1=>1
   | 2=>((c::r).takeWhile SD).length
   | 3=>((c::r).takeWhile sT).length
   | 5=>if ((c::r).takeWhile sT).length=1 then 1 else 0
   | 6=>a0J r
   | 7=>1
   | _=>0
structure Tok where
 kind:Int
 text:List UInt8
 n:Int
 pos:Int
deriving DecidableEq
def Tok.zero:Tok:=⟨0,[],0,0⟩
def dec(s:List UInt8):Nat:=s.foldl (λa c=>10 * a+(c.toNat - 48)) 0
def C9(k:Nat)(s:List UInt8):Int×Tok:=
 if k=7 then (0,⟨3,s,0,0⟩)
 else if k=6 then (if 42<s.length then (3,Tok.zero) else (0,⟨1,s,0,0⟩))
 else if s.all nL=false then (if 60<s.length then (3,Tok.zero) else (0,⟨1,s,0,0⟩))
 else if 1<s.length/\s.head?=some 48 then (10,Tok.zero)
 else if 1000000000<dec s then (3,Tok.zero) else (0,⟨2,[],dec s,0⟩)
def oL:List UInt8->Nat->Nat->List Tok×Int×Nat
 | [],_,_=>([],0,0)
 | c::r,p,k=>
  let n:=Uf (c::r)
  if cls c=1\/cls c=2 then oL (r.drop (n - 1)) (p+n) k
  else if n=0 then ([],10,p)
  else if k=2000 then ([],2,p)
  else if (C9 (cls c) ((c::r).take n)).1≠0 then ([],(C9 (cls c) ((c::r).take n)).1,p)
  else
   let x:=oL (r.drop (n - 1)) (p+n) (k+1)
   ({ (C9 (cls c) ((c::r).take n)).2 with pos:=p } :: x.1,x.2)
termination_by l=>l.length
decreasing_by all_goals (simp;omega)
def lex(s:List UInt8):List Tok×Int×Nat:=
 if 8000<s.length then ([],2,0) else if (oL s 0 0).2.1=0 then ((oL s 0 0).1,0,0) else ([],(oL s 0 0).2)

end Np
section
open Go.RowKit
def orI:List Int->Int
 | []=>0
 | x::xs=>if x≠0 then x else orI xs
theorem aVK(xs:List Int)(h:∀ x∈xs,x=0):orI xs=0:=by
 induction xs with
 | nil=>rfl
 | cons x r ih=>rw[orI,Qc (by simp[h x (by simp)])];exact ih (λy hy=>h y (by simp[hy]))
theorem aVJ(xs:List Int)(k:Nat)(hk:k<xs.length)(h:∀ x∈xs.take k,x=0)(hx:xs[k]≠0):orI xs=xs[k]:=by
 induction xs generalizing k with
 | nil=>simp at hk
 | cons x r ih=>
  cases k with
  | zero=>simp at hx;simp[orI,hx]
  | succ k=>
   have h0:x=0:=h x (by simp);rw[orI,Qc (by simp[h0])];simpa using ih k (by simpa using hk) (λy hy=>h y (by simp[hy])) (by simpa using hx)
theorem YZ(b c:Nat)(xs:List Int)(hl:xs.length<=1000)(w:World)(hc:∀ i x,xs[i]?=some x->w.cell? ⟨b,i,none⟩=some (.int .i64 x)) :
 Calls prog 302 #[.slice (some ⟨b,0,none⟩) xs.length c] w (ahY w (.int .i64 (orI xs))):=by
 have HC:=jq hc;clear hc;go_enter func302,ntmps302;go_wp2;go_loop [8] (λi=>∃ k:Nat,k<=xs.length/\i = .int .i64 k/\Hid (∀ x∈xs.take k,x=0)) (λi=>xs.length - (intOf i).toNat)
 case atStart=>exact⟨0,jQ _,rfl,jq (by simp)⟩
 case round=>
  obtain⟨k,hk,rfl,HA⟩:=hrel;by_cases ab:k<xs.length
  ·have hcell:w.cell? ⟨b,k,none⟩=some (.int .i64 xs[k]):=HC.out k _ (aQ ab);go_wp2
   ·have hne:(xs[k] != 0)=true:=by assumption
    go_ret;exact⟨iB (aVJ xs k ab HA.out (by simpa using hne)).symm,rfl⟩
   ·have hne:(xs[k] != 0)=false:=by assumption
    go_round
    case rel=>
     refine⟨k+1,by omega,by go_num,jq ?_⟩;rw[fQ ab];intro x hx;rcases List.mem_append.1 hx with h | h
     ·exact HA.out x h
     ·simp at h;subst h;simpa using hne
    case measure=>simp[intOf]<;>omega
  ·go_wp2;go_ret;exact⟨iB (aVK xs (by have:=HA.out;rwa [kQ (by omega)] at this)).symm,rfl⟩
theorem YY(a b:Np.Datum):Np.qH a b=orI [Np.cE a.text b.text,Np.cL a.n b.n,Np.cL a.m b.m]:=by
 simp only[Np.qH,orI];split
 ·rfl
 ·split
  ·rfl
  ·split
   ·rfl
   ·rename_i h;simpa using h
theorem Y5(s t:ByteArray)(n1 m1 n2 m2:Int)(w:World) :
 Calls prog 231 #[.agg #[.string s,.int .i64 n1,.int .i64 m1],.agg #[.string t,.int .i64 n2,.int .i64 m2]] w
  λe w'=>e = .returned (.int .i64 (Np.qH ⟨s.data.toList,n1,m1⟩ ⟨t.data.toList,n2,m2⟩))/\Below w.heap.size w w':=by
 rw[YY];go_enter func231,ntmps231;go_wp2;refine Um 15 (by kernel_rfl) (by kernel_rfl) ?_;simp only[List.take_succ_cons,List.take_zero,List.drop_succ_cons,List.drop_zero]
 iterate 4 still_step
 still_call (Calls.still_same (Y0 _ _ _))
 iterate 4 still_step
 still_call (Calls.still_same (Bm _ _ _))
 iterate 4 still_step
 still_call (Calls.still_same (Bm _ _ _))
 refine wpStill_nil ?_;go_wp2_with fail;refine (YZ (w.heap.size+1+1) 3 [Np.cE s.data.toList t.data.toList,Np.cL n1 n2,Np.cL m1 m2] (by simp) _ ?_).mono ?_
 ·intro i x hx
  match i,hx with
  | 0,hx=>simp at hx;subst hx;go_simp
  | 1,hx=>simp at hx;subst hx;go_simp
  | 2,hx=>simp at hx;subst hx;go_simp
  | i+3,hx=>simp at hx
 ·rintro e w' ⟨rfl,rfl⟩;go_wp2_with fail;go_ret;exact⟨rfl,((((vQ _ w).alloc (bQ _) _).alloc (by simp) _).alloc (by simp;omega) _).drew⟩
def iU(r:Np.Rule):Array Value:=#[.int .i64 r.text,.int .i64 r.leastN,.int .i64 r.mostN,.int .i64 r.leastM,.int .i64 r.mostM,.bool r.even,.bool r.single,.bool r.wild]
theorem bnJ(k ln mn lm mm:Int)(ev si wi:Bool)(s:ByteArray)(hs:s.size<=140737488355328)(n m:Int)(w:World) :
 Calls prog 230 #[.agg #[.int .i64 k,.int .i64 ln,.int .i64 mn,.int .i64 lm,.int .i64 mm,.bool ev,.bool si,.bool wi],.agg #[.string s,.int .i64 n,.int .i64 m]] w
  λe w'=>e = .returned (.bool (Np.jV ⟨k,ln,mn,lm,mm,ev,si,wi⟩ ⟨s.data.toList,n,m⟩))/\Below w.heap.size w w':=by
 go_enter func230,ntmps230;go_wp2_with (first
  | (go_at_call 228;refine (LT _ _ _ _).mono ?_;rintro e w' ⟨rfl,rfl⟩)
  | (go_at_call 105;refine (nameValid_any _ hs _).mono ?_;rintro e w' ⟨rfl,hb⟩;obtain⟨hc,hf⟩:=tD hb)
  | (go_at_call 229;refine (Sc _ hs _).mono ?_;rintro e w' ⟨rfl,rfl⟩)
  | (go_at_call 301;refine (aIJ _ hs _).mono ?_;rintro e w' ⟨rfl,rfl⟩))
 all_goals
  go_ret;go_light;refine⟨ag ?_,?_⟩
  ·simp_all [Np.jV,Np.xF,dQ]<;>(intros;omega)
  ·first
    | exact ((vQ _ w).alloc (bQ _) _).alloc (by simp) _
    | exact (((vQ _ w).alloc (bQ _) _).alloc (by simp) _).trans (hb.mono (by simp;omega))
end
namespace Np
structure IsGap(g:List UInt8):Prop where
 skip:∀ x p k,oL (g++x) p k=oL x (p+g.length) k
 stop:∃ c r,g=c::r/\sT c=false
 rest:∀ p k,oL (g.drop (g.takeWhile SD).length) p k=([],0,0)
def nc(n:Nat):List UInt8:=if n<10 then [UInt8.ofNat (48+n)] else nc (n / 10) ++ [UInt8.ofNat (48+n % 10)]
theorem Zq(t:List UInt8)(c:UInt8):dec (t ++ [c])=10 * dec t+(c.toNat - 48):=by simp[dec]
theorem aoY{t u:List UInt8}(h:t≠[]):(t++u).head?=t.head?:=by
 cases t with
 | nil=>exact absurd rfl h
 | cons a t=>rfl
def Uv(y:List UInt8):Prop:=y = []\/y.head?=some 32
def Ej(t:Tok):Tok:={ t with pos:=0 }
def kI(x:List UInt8)(t:Tok):Prop:=∃ c r,x=c::r/\¬ (cls c=1\/cls c=2)/\(∀ y,Uv y->Uf (x++y)=x.length)/\(C9 (cls c) x).1=0/\Ej (C9 (cls c) x).2=Ej t
structure Sig where
 zone:List UInt8
 key:Int
 alg:Int
 frm:Int
 til:Int
 sum:Int
deriving DecidableEq
structure Signed where
 set:DSet
 sigs:List Sig
deriving DecidableEq
structure Span where
 frm:Int
 til:Int
deriving DecidableEq
def bbY(g x:Sig):Bool:=(x.frm != g.frm)||(x.til != g.til)
def aXJ:List Sig->Bool
 | []=>true
 | g::r=>!(decide (g.frm<0)||decide (g.til<g.frm)||decide (20000000<g.til))&&!((g::r).any (bbY g))
def plain(s:Signed):Bool:=dT s.set&&decide (s.sigs.length<=6)&&aXJ s.sigs
def LB(length drift life:Int):Int:=length - max life 1 - 3 * drift+2
def LA(begin stop length drift life:Int):Prop:=0<=drift/\drift<=1000/\1<=stop/\stop<=10000000/\drift<=begin/\begin<=stop - 1/\1<=length/\length<=10000000/\0<=life/\life<=100000
instance (b s l d f:Int):Decidable (LA b s l d f):=by unfold LA;infer_instance
def T2(b s k:Int):List Int:=(List.range ((s - b+k - 1) / k).toNat).map λ(i:Nat)=>b+i * k
def bkX(b s l d f:Int):Int:=if LA b s l d f then (if LB l d f<1 then 32 else if 400<(T2 b s (LB l d f)).length then 2 else 0) else 1
def times(b s l d f:Int):List Int:=if bkX b s l d f=0 then T2 b s (LB l d f) else []
structure Zone where
 apex:List UInt8
 sets:List Signed
deriving DecidableEq
def m9:List (List UInt8)->List (List UInt8)->Int
 | [],_=>-1
 | _::_,[]=>1
 | x::xs,y::ys=>if cE x y≠0 then cE x y else m9 xs ys
def aL(a b:List UInt8):Int:=if a=b then 0 else m9 (bI a) (bI b)
def gE(a b:DSet):Int:=if a.name≠b.name then aL a.name b.name else cL a.type b.type
def aX(s z:List UInt8):Bool:=s == z||z == [46]||(decide (z.length<s.length)&&(s.drop (s.length - z.length) == z)&&(s[s.length - z.length - 1]? == some 46))
def jG(apex:List UInt8):Option DSet->List Signed->Bool
 | _,[]=>true
 | p,x::r=>(al x.set.name&&aX x.set.name apex)&&dT x.set&&(match p with | none=>true | some q=>decide (gE q x.set<0))&&jG apex (some x.set) r
def eK(z:Zone):Bool:=al z.apex&&!eH z.apex&&jG z.apex none z.sets
theorem Ps:∀ (xs:List (List UInt8)) (n:Nat) (w:Bool),fl xs n w=true->∀ x∈xs,x = [42]\/bX x=true:=by
 intro xs
 induction xs with
 | nil=>intro _ _ _ x h;cases h
 | cons y xs ih=>
  intro n w h x hx;rw[fl] at h;split at h
  ·cases h
  ·split at h
   ·rename_i hy;rcases List.mem_cons.1 hx with rfl | hx
    ·exact .inl hy
    ·exact ih _ _ h x hx
   ·split at h
    ·rename_i hy;rcases List.mem_cons.1 hx with rfl | hx
     ·exact .inr hy
     ·exact ih _ _ h x hx
    ·cases h
theorem Jf{r:Rule} : ∀ {ds:List Datum} {p:Option Datum},jf r p ds=true->∀ d∈ds,jV r d=true
 | [],_,_,d,h=>by cases h
 | e::ds,p,h,d,hd=>by
   simp only[jf,Bool.and_eq_true] at h;rcases List.mem_cons.1 hd with rfl | hd
   ·exact h.1.1
   ·exact Jf h.2 d hd
theorem zP{s:DSet}(h:dT s=true):al s.name=true/\1<=s.type/\s.type<=8/\0<=s.life/\s.life<=100000/\1<=s.data.length/\s.data.length<=8/\jf (ca s.type) none s.data=true:=by
 unfold dT at h;simp only[Bool.and_eq_true,Qa] at h;obtain⟨⟨⟨⟨⟨⟨h1,h2,h3⟩,h4,h5⟩,h6,h7⟩,_⟩,_⟩,h8⟩:=h;exact⟨h1,h2,h3,h4,h5,h6,h7,h8⟩
theorem Et{apex:List UInt8} : ∀ {l:List Signed} {p:Option DSet},jG apex p l=true->∀ x∈l,dT x.set=true
 | [],_,_,x,h=>by cases h
 | y::l,p,h,x,hx=>by
   simp only[jG,Bool.and_eq_true] at h;rcases List.mem_cons.1 hx with rfl | hx
   ·exact h.1.1.2
   ·exact Et h.2 x hx
end Np
end Go.Proofs.YtfnopgdcaanaiaaGreatDoor
namespace Go.Proofs
open YtfnopgdcaanaiaaGreatDoor Tryz
open Go.Shelf
def Tryz.lays106_ren:Go.Shelf.Ren:=⟨fun | 106=>216 | 213=>299 | 265=>346 | n=>n,fun | 9=>9 | 3=>3 | n=>n,fun | n=>n⟩
theorem Tryz.lays106:Go.Proofs.Lays.n106 Tryz.prog Tryz.lays106_ren:={
 mixed:=by kernel_rfl
 f106:=func216.trans (agZ)
 f213:=func299.trans (agZ)
 f265:=func346.trans (agZ)
 t3:=underlying3
 a3:=isAgg3
 z3:=Tryz.sizeOf3
 v3:=Tryz.zeroValue3
 t9:=underlying9
 a9:=isAgg9
 z9:=Tryz.sizeOf9
 v9:=Tryz.zeroValue9 }
open Go.RowKit in
theorem Tryz.strings_Compare(a b:ByteArray)(w:World) :
 Calls Tryz.prog 216 #[.string a,.string b] w λe w'=>e = .returned (.int .i64 (Lib.compareBytes a.data.toList b.data.toList))/\w'=w:=Any.strings_Compare Tryz.lays106 a b w
end Go.Proofs
namespace Go.Proofs.YtfnopgdcaanaiaaGreatDoor
open Go.Proofs.Tryz
section
open Go.RowKit
def gq(w:World)(B:Nat):Prop:=0<B/\∀ k:Nat,k<9->cA w 0 (k * 8) (iU (Np.ca k)).toList
theorem gq.keep{w w':World}{B:Nat}(h:gq w B)(hb:Below B w w'):gq w' B:=⟨h.1,λk hk=>(h.2 k hk).keep hb h.1⟩
theorem gq.more{w:World}{B B':Nat}(h:gq w B)(hB:B<=B'):gq w B':=⟨lQ h.1 hB,h.2⟩
def ci(_:World)(_:Nat)(e:List Value)(d:Np.Datum):Prop:=∃ s:ByteArray,s.data.toList=d.text/\s.size<=140737488355328/\e = [.string s,.int .i64 d.n,.int .i64 d.m]
theorem cJ:dl ci:=λ_ _ _ _ _ h _=>h
theorem di:dy ci:=λ_ _ _ _ _ h _=>h
theorem YD{w w':World}(h:w'=w):Below w.heap.size w w':=by rw[h];exact vQ _ _
theorem LL(k ln mn lm mm:Int)(ev si wi:Bool)(s:ByteArray)(hs:s.size<=140737488355328)(n m:Int)(w:World)(t:Bool)(ht:Np.jV ⟨k,ln,mn,lm,mm,ev,si,wi⟩ ⟨s.data.toList,n,m⟩=t) :
 Calls prog 230 #[.agg #[.int .i64 k,.int .i64 ln,.int .i64 mn,.int .i64 lm,.int .i64 mm,.bool ev,.bool si,.bool wi],.agg #[.string s,.int .i64 n,.int .i64 m]] w
  λe w'=>e = .returned (.bool t)/\Below w.heap.size w w':=by
 subst ht;exact bnJ k ln mn lm mm ev si wi s hs n m w
def X6(w1:World)(o:Obj)(r:Np.Rule)(ds:List Np.Datum)(i:Value)(wr:World):Prop:=
 ∃ j:Nat,j<=ds.length/\i = .int .i64 j/\Below (w1.alloc o).heap.size (w1.alloc o) wr/\Np.jf r none ds=Np.jf r (ds.take j).getLast? (ds.drop j)
theorem Ti(s:ByteArray)(hs:s.size<=140737488355328)(ty life:Int)(v:Value)(ds:List Np.Datum)(w:World)(hR:gq w w.heap.size)(hd:SlR ci 3 w w.heap.size v ds) :
 Calls prog 152 #[.agg #[.string s,.int .i64 ty,.int .i64 life,v]] w
  λe w'=>e = .returned (.bool (Np.dT ⟨s.data.toList,ty,life,ds⟩))/\Below w.heap.size w w':=by
 have HR:=jq hR;have HD:=jq hd;obtain⟨A,c,rfl,bw,bT,gW⟩:=hd;clear hR gW;have HF:Hid (∀ t:Bool,t=Np.dT ⟨s.data.toList,ty,life,ds⟩->(.bool t:Value) = .bool (Np.dT ⟨s.data.toList,ty,life,ds⟩)):=λt ht=>by rw[ht]
 go_enter func152,ntmps152;go_wp2_with fail;refine (nameValid_any _ hs _).mono ?_;rintro e w1 ⟨rfl,hb⟩;have dm:Below w.heap.size w w1:=((vQ _ w).alloc (bQ _) _).trans (hb.mono (by simp));have ay:w.heap.size+1<=w1.heap.size:=by have:=hb.size;simpa using this
 have dG:w.heap.size<w1.heap.size:=by omega
 have c0:w1.cell? ⟨w.heap.size,0,none⟩=some (.string s):=by rw[hb.cell (by simp)];go_simp
 have c1:w1.cell? ⟨w.heap.size,1,none⟩=some (.int .i64 ty):=by rw[hb.cell (by simp)];go_simp
 have c2:w1.cell? ⟨w.heap.size,2,none⟩=some (.int .i64 life):=by rw[hb.cell (by simp)];go_simp
 have c3:w1.cell? ⟨w.heap.size,3,none⟩=some (.slice A ds.length c):=by rw[hb.cell (by simp)];go_simp
 have HB:=jq hb;clear hb;by_cases cw:1<=ty/\ty<=8
 ·obtain⟨k,rfl⟩:=Int.eq_ofNat_of_zero_le (by omega:0<=ty);have hk9:k<9:=by omega
  have sG:=(HR.out.keep dm).2 k hk9;have r0:w1.cell? ⟨0,k * 8,none⟩=some (.int .i64 (Np.ca k).text):=sG 0 _ rfl;have r1:w1.cell? ⟨0,k * 8+1,none⟩=some (.int .i64 (Np.ca k).leastN):=sG 1 _ rfl;have r2:w1.cell? ⟨0,k * 8+2,none⟩=some (.int .i64 (Np.ca k).mostN):=sG 2 _ rfl;have r3:w1.cell? ⟨0,k * 8+3,none⟩=some (.int .i64 (Np.ca k).leastM):=sG 3 _ rfl;have r4:w1.cell? ⟨0,k * 8+4,none⟩=some (.int .i64 (Np.ca k).mostM):=sG 4 _ rfl;have r5:w1.cell? ⟨0,k * 8+5,none⟩=some (.bool (Np.ca k).even):=sG 5 _ rfl;have r6:w1.cell? ⟨0,k * 8+6,none⟩=some (.bool (Np.ca k).single):=sG 6 _ rfl;have r7:w1.cell? ⟨0,k * 8+7,none⟩=some (.bool (Np.ca k).wild):=sG 7 _ rfl;clear sG;go_wp2_with (first
   | (go_at_call 228;refine (LT _ _ _ _).mono ?_;rintro e w' ⟨rfl,rfl⟩)
   | (go_at_call 229;refine (Sc _ hs _).mono ?_;rintro e w' ⟨rfl,rfl⟩))
  all_goals first
   | (go_ret
      go_light;refine⟨ag ?_,by first | exact dm | exact dm.alloc (by omega) _⟩;simp_all [Np.dT]<;>(intros;omega))
   | skip
  all_goals
   have hv:Np.dT ⟨s.data.toList,k,life,ds⟩=Np.jf (Np.ca k) none ds:=by
    go_light;simp_all [Np.dT]<;>(intros;omega)
  rotate_left 3
  all_goals
   have HV:=jq hv;clear hv HF;go_loopw [52] (λi wr=>X6 w1 (Obj.cells (iU (Np.ca k)) 283) (Np.ca k) ds i wr) (λi _=>ds.length - (intOf i).toNat)
   case atStart=>
    refine⟨0,jQ _,rfl,YD ?_,rfl⟩;go_light;simp_all [iU]
   case round=>
    obtain⟨j,hj,rfl,aM,hg⟩:=hrel;have HG:=jq hg;clear hg;by_cases ab:j<ds.length
    ·have gi:=aM.size;simp only[World.size_alloc] at gi;have lY:Below w.heap.size w wr:=(dm.alloc (by omega) _).trans (aM.mono (by simp;omega));have mF:w.heap.size<wr.heap.size:=by omega
     have am:w1.heap.size<wr.heap.size:=by omega
     have d3:wr.cell? ⟨w.heap.size,3,none⟩=some (.slice A ds.length c):=by rw[aM.cell (by simp;omega)];rw[World.cell?_alloc_lt _ _ _ (by simpa using dG)];exact c3
     have q0:wr.cell? ⟨w1.heap.size,0,none⟩=some (.int .i64 (Np.ca k).text):=by rw[aM.cell (by simp)];exact World.cell?_alloc_new w1 _ _ _
     have q1:wr.cell? ⟨w1.heap.size,1,none⟩=some (.int .i64 (Np.ca k).leastN):=by rw[aM.cell (by simp)];exact World.cell?_alloc_new w1 _ _ _
     have q2:wr.cell? ⟨w1.heap.size,2,none⟩=some (.int .i64 (Np.ca k).mostN):=by rw[aM.cell (by simp)];exact World.cell?_alloc_new w1 _ _ _
     have q3:wr.cell? ⟨w1.heap.size,3,none⟩=some (.int .i64 (Np.ca k).leastM):=by rw[aM.cell (by simp)];exact World.cell?_alloc_new w1 _ _ _
     have q4:wr.cell? ⟨w1.heap.size,4,none⟩=some (.int .i64 (Np.ca k).mostM):=by rw[aM.cell (by simp)];exact World.cell?_alloc_new w1 _ _ _
     have q5:wr.cell? ⟨w1.heap.size,5,none⟩=some (.bool (Np.ca k).even):=by rw[aM.cell (by simp)];exact World.cell?_alloc_new w1 _ _ _
     have q6:wr.cell? ⟨w1.heap.size,6,none⟩=some (.bool (Np.ca k).single):=by rw[aM.cell (by simp)];exact World.cell?_alloc_new w1 _ _ _
     have q7:wr.cell? ⟨w1.heap.size,7,none⟩=some (.bool (Np.ca k).wild):=by rw[aM.cell (by simp)];exact World.cell?_alloc_new w1 _ _ _
     obtain⟨A',c',hA',_,_,bL⟩:=HD.out.keep cJ lY
     cases hA'
     obtain⟨b,o,e,rfl,bZ,_,hce,sd,uf,ug,rfl⟩:=bL j _ (aQ ab);have e0:wr.cell? ⟨b,o+j * 3,none⟩=some (.string sd):=hce 0 _ rfl;have e1:wr.cell? ⟨b,o+j * 3+1,none⟩=some (.int .i64 ds[j].n):=hce 1 _ rfl;have e2:wr.cell? ⟨b,o+j * 3+2,none⟩=some (.int .i64 ds[j].m):=hce 2 _ rfl;have du:b<wr.heap.size:=by omega
     have aS:=jq aM;have aH:=jq lY;have G0:=jq bL;have pm:=jq uf;clear hce aM lY bL uf c0 c1 c2 c3 r0 r1 r2 r3 r4 r5 r6 r7;go_wp2_with fail;have p0:=World.cell?_alloc_new wr #[.string sd,.int .i64 ds[j].n,.int .i64 ds[j].m] 128 0;have p1:=World.cell?_alloc_new wr #[.string sd,.int .i64 ds[j].n,.int .i64 ds[j].m] 128 1;have p2:=World.cell?_alloc_new wr #[.string sd,.int .i64 ds[j].n,.int .i64 ds[j].m] 128 2;have keep:∀ b o,b<wr.heap.size->(wr.alloc (.cells #[.string sd,.int .i64 ds[j].n,.int .i64 ds[j].m] 128)).cell? ⟨b,o,none⟩=wr.cell? ⟨b,o,none⟩:=λb o h=>World.cell?_alloc_lt _ _ _ h;have qX:(wr.alloc (.cells #[.string sd,.int .i64 ds[j].n,.int .i64 ds[j].m] 128)).heap.size=wr.heap.size+1:=World.size_alloc _ _;have cF:Below wr.heap.size wr (wr.alloc (.cells #[.string sd,.int .i64 ds[j].n,.int .i64 ds[j].m] 128)):=blAl;generalize wr.alloc (.cells #[.string sd,.int .i64 ds[j].n,.int .i64 ds[j].m] 128)=wx at p0 p1 p2 keep qX cF |-;have eG:w.heap.size<wx.heap.size:=by omega
     have dO:w1.heap.size<wx.heap.size:=by omega
     have oJ:wr.heap.size<wx.heap.size:=by omega
     have uo:b<wx.heap.size:=by omega
     have nv:∀ (g:bN wx) (p:Addr),p.block<wx.heap.size->g.w.cell? p=wx.cell? p:=λg p h=>g.cell p h;have fe:=jq cF;clear cF qX;have BY:(⟨sd.data.toList,ds[j].n,ds[j].m⟩:Np.Datum)=ds[j]:=by rw[pm.out]
     have ro:=jq BY;clear BY;by_cases pW:Np.jV (Np.ca k) ⟨sd.data.toList,ds[j].n,ds[j].m⟩=true
     ·have kY:=jq pW;clear pW;by_cases jg:j=0
      ·subst jg;refine agY ?_
       repeat (go_big_quiet_step ((go_at_call 230;exact Calls.grow_of (LL _ _ _ _ _ _ _ _ _ ug _ _ _ true kY.out))))
       refine wpQuiet_nil ?_;rintro _ ⟨g,rfl⟩;go_wp2_with fail;go_roundw
       case rel=>
        go_light;have h1:=Np.Pq (r:=Np.ca k) (aQ ab) (by rw[<-ro.out];exact kY.out);exact⟨1,ab,by go_num,aS.out.trans ((fe.out.trans (g.below.afK)).mono (by simp;omega)),by rw[<-h1];exact HG.out⟩
       case measure=>simp[intOf]<;>omega
      ·obtain⟨i,rfl⟩:∃ i,j=i+1:=⟨j - 1,by omega⟩
       try (exfalso;omega)
       all_goals
        obtain⟨b',o',e',pz,BN,_,lj,sq,ku,aBX,rfl⟩:=G0.out i _ (aQ (by omega))
        cases pz
        have f0:wr.cell? ⟨b,o+i * 3,none⟩=some (.string sq):=lj 0 _ rfl;have f1:wr.cell? ⟨b,o+i * 3+1,none⟩=some (.int .i64 (ds[i]'(by omega)).n):=lj 1 _ rfl;have f2:wr.cell? ⟨b,o+i * 3+2,none⟩=some (.int .i64 (ds[i]'(by omega)).m):=lj 2 _ rfl;have BX:(⟨sq.data.toList,(ds[i]'(by omega)).n,(ds[i]'(by omega)).m⟩:Np.Datum)=ds[i]'(by omega):=by rw[ku]
        have GU:=jq BX;clear lj ku BX;refine agY ?_
        repeat (go_big_quiet_step (first
         | (go_at_call 230;exact Calls.grow_of (LL _ _ _ _ _ _ _ _ _ ug _ _ _ true kY.out))
         | (go_at_call 231;exact Calls.grow_of (Y5 _ _ _ _ _ _ _))))
        refine wpQuiet_nil ?_;rintro _ ⟨g,rfl⟩;have h1:=Np.Pr (r:=Np.ca k) (aQ (by omega:i<ds.length)) (aQ ab) (by rw[<-ro.out];exact kY.out);rw[<-ro.out,<-GU.out] at h1;have H1:=jq h1;clear h1;go_wp2_with fail
        ·go_ret;refine⟨ag ?_,aH.out.trans ((fe.out.trans (g.below.afK)).afK)⟩;rw[HV.out,HG.out,H1.out,Qc (by omega)]
        ·go_roundw
         case rel=>
          go_light;exact⟨i+1+1,ab,by go_num,aS.out.trans ((fe.out.trans (g.below.afK)).mono (by simp;omega)),by rw[HG.out,H1.out,Qb (by omega)]⟩
         case measure=>simp[intOf]<;>omega
     ·have CJ:Np.jV (Np.ca k) ⟨sd.data.toList,ds[j].n,ds[j].m⟩=false:=by simpa using pW
      have kY:=jq CJ;clear pW CJ;refine agY ?_
      repeat (go_big_quiet_step ((go_at_call 230;exact Calls.grow_of (LL _ _ _ _ _ _ _ _ _ ug _ _ _ false kY.out))))
      refine wpQuiet_nil ?_;rintro _ ⟨g,rfl⟩;go_wp2_with fail;go_ret;refine⟨ag ?_,aH.out.trans ((fe.out.trans (g.below.afK)).afK)⟩;rw[HV.out,HG.out,Np.Pp (aQ ab) (by rw[<-ro.out];exact kY.out)]
    ·go_wp2_with fail;go_ret;refine⟨ag ?_,(dm.alloc (by omega) _).trans (aM.mono (by simp;omega))⟩;rw[HV.out,HG.out,List.drop_eq_nil_of_le (by omega)];rfl
 ·have hv:Np.dT ⟨s.data.toList,ty,life,ds⟩=false:=by
   simp only[Np.dT]
   have:(decide (1<=ty)&&decide (ty<=8))=false:=by simp;omega
   rw[this];simp
  have HV:=jq hv;clear hv;have bOX:(decide (1<=ty)&&decide (ty<=8))=false:=by simp;omega
  go_wp2_with (first
   | (go_at_call 228;refine (LT _ _ _ _).mono ?_;rintro e w' ⟨rfl,rfl⟩))
  all_goals
   go_ret;exact⟨ag HV.out.symm,dm⟩
end
namespace D
open Go.RowKit Go.Shelf
attribute [local go_sem] Oper.semAt_some
def rG(W:World)(lm lr:Nat)(rem:List (List UInt8)):Prop:=
 ∃ (more:Bool) (r:ByteArray),Boxed W lm 4 (.bool more)/\Boxed W lr 9 (.string r)/\r.size<=140737488355328/\rem=if more then (Np.bl r.data.toList).reverse else []
theorem rG.it{B:Nat}{S:Nat->Prop}{W W':World}{lm lr:Nat}{rem:List (List UInt8)}(h:rG W lm lr rem)(hs:ItStep B S W W')(h1:S lm)(h2:S lr):rG W' lm lr rem:=by
 obtain⟨more,r,b1,b2,h3,h4⟩:=h;exact⟨more,r,iK b1 hs h1,iK b2 hs h2,h3,h4⟩
def II(W:World)(lm lr:Nat)(rem:List (List UInt8))(e:Ending)(W':World):Prop:=
 (rem = []/\e = .returned (.tuple #[.string ⟨#[]⟩,.bool false])/\W'=W)\/
 ∃ x rest,rem=x::rest/\e = .returned (.tuple #[aI x,.bool true])/\rG W' lm lr rest/\∃ b u,(b=lm\/b=lr)/\W'=W.setCell ⟨b,0,none⟩ u
theorem aSX(lm lr:Nat)(hne:lm≠lr)(rem:List (List UInt8))(w:World)(h:rG w lm lr rem) :
 Calls prog 297 #[.pointer (some ⟨lm,0,none⟩),.pointer (some ⟨lr,0,none⟩)] w (II w lm lr rem):=by
 obtain⟨more,r,b1,b2,h3,h4⟩:=h;have HR:=jq h4;clear h4;have c1:=b1.cell;have c2:=b2.cell;have f1:=b1.frozen;have f2:=b2.frozen
 cases more with
 | false=>
  go_enter func297,ntmps297;go_wp2_with fail;refine bodyPost_ret (v:=.tuple #[.string ⟨#[]⟩,.bool false]) (by simp[results,results297,go_sem]) rfl ?_;exact .inl ⟨HR.out,rfl,rfl⟩
 | true=>
  go_enter func297,ntmps297;go_wp2_with fail;refine (Sp _ h3 _ (by decide) (by decide) _).mono ?_;rintro e w' ⟨q,hq,rfl,rfl⟩;rcases hq with ⟨rfl,fG⟩ | ⟨a,b,kg,wM,rfl⟩
  ·have bU:Np.bl r.data.toList = [r.data.toList]:=Np.sZ fG;have HS:=jq bU;clear bU fG;go_wp2_with fail;refine bodyPost_ret (v:=.tuple #[.string r,.bool true]) (by simp[results,results297,go_sem]) rfl ?_;refine .inr ⟨r.data.toList,[],by rw[HR.out,Qb trivial,HS.out];rfl,rfl,⟨false,r,b1.set _,eP b2 (by simpa using hne.symm) _,h3,rfl⟩,lm,_,.inl rfl,rfl⟩
  ·have mb:a.length+1+b.length=r.size:=by rw[<-bj,kg];simp;omega
   have bU:Np.bl r.data.toList=Np.bl a ++ [b]:=by rw[kg];exact (Np.xC a b).trans (by rw[Np.sZ wM])
   have uq:(r.extract (a.length+1) r.size).data.toList=b:=by rw[I3,kg];simp
   have zp:(r.extract 0 a.length).data.toList=a:=by rw[I5,kg];simp
   have XM:Hid (r.extract (a.length+1) r.size=⟨b.toArray⟩):=jq (iC (by rw[uq]));have N6:=jq zp;have HS:=jq bU;clear bU uq zp kg wM;have iN:a.length<=140737488355328:=by omega
   have ajZ:a.length+1<=r.size:=by omega
   have bDK:(a.length:Int)+1<=(r.size:Int):=by omega
   clear mb;go_wp2_with fail;refine bodyPost_ret (v:=.tuple #[.string (r.extract (a.length+1) r.size),.bool true]) (by simp[results,results297,go_sem]) rfl ?_;refine .inr ⟨b,(Np.bl a).reverse,by rw[HR.out,Qb trivial,HS.out];simp,by rw[XM.out],⟨true,r.extract 0 a.length,eP b1 (by simpa using hne) _,b2.set _,by rw[<-bj,N6.out];omega,by rw[N6.out];rfl⟩,lr,_,.inr rfl,rfl⟩
theorem a0Q(t:ByteArray)(ht:t.size<=140737488355328)(w:World) :
 Calls prog 214 #[.string t] w λe w'=>e = .returned (.func (.func 297) #[] #[.pointer (some ⟨w.heap.size+1,0,none⟩),.pointer (some ⟨w.heap.size,0,none⟩)])/\
  rG w' (w.heap.size+1) w.heap.size (Np.bI t.data.toList)/\Below w.heap.size w w'/\w'.heap.size=w.heap.size+2:=by
 have b0:=Boxed.new w 9 (.string t);have hb:∀ o o',Below w.heap.size w ((w.alloc o).alloc o'):=λo o'=>((vQ _ w).alloc (bQ _) _).alloc (by simp) _;by_cases he:t.data.toList = [46]
 ·have my:(t.toList == [46])=true:=by rw[dQ,he];rfl
  have b1:=Boxed.new (w.alloc (.cells #[.string t] 9)) 4 (.bool false);rw[World.size_alloc] at b1;have HB:Hid (Np.bI t.data.toList = []):=jq (by simp[Np.bI,he]);clear he;go_enter func214,ntmps214;go_wp2_with fail;go_ret;exact⟨rfl,⟨false,t,b1,b0.alloc _,ht,by rw[HB.out];rfl⟩,hb _ _,by simp⟩
 ·have my:(t.toList == [46])=false:=by rw[dQ];simpa using he
  have b1:=Boxed.new (w.alloc (.cells #[.string t] 9)) 4 (.bool true);rw[World.size_alloc] at b1;have HB:Hid (Np.bI t.data.toList=(Np.bl t.data.toList).reverse):=jq (by simp[Np.bI,he]);clear he;go_enter func214,ntmps214;go_wp2_with fail;go_ret;exact⟨rfl,⟨true,t,b1,b0.alloc _,ht,by rw[HB.out];rfl⟩,hb _ _,by simp⟩
theorem Y1:∀ a b:List UInt8,Lib.compareBytes a b=Np.cE a b:=by
 intro a
 induction a with
 | nil=>
  intro b
  cases b with
  | nil=>rfl
  | cons y b=>simp[Lib.compareBytes,Np.cE,Op.bytesLess]
 | cons x a ih=>
  intro b
  cases b with
  | nil=>simp[Lib.compareBytes,Np.cE,Op.bytesLess]
  | cons y b=>
   rw[Lib.compareBytes,ih b];by_cases h1:x<y
   ·simp[Np.cE,Op.bytesLess,h1]
   ·by_cases h2:y<x
    ·have h3:¬ x=y:=λe=>by subst e;exact h1 h2
     simp[Np.cE,Op.bytesLess,h1,h2,h3]
    ·have h3:x=y:=by
      apply UInt8.toNat_inj.1;simp only[UInt8.lt_iff_toNat_lt] at h1 h2;omega
     subst h3;simp[Np.cE,Op.bytesLess,h1]
theorem biJ(s t:ByteArray)(w:World) :
 Calls prog 216 #[.string s,.string t] w λe w'=>e = .returned (.int .i64 (Np.cE s.data.toList t.data.toList))/\w=w':=
 (Tryz.strings_Compare s t w).mono λe w' ⟨he,hw⟩=>⟨by rw[he,Y1],hw.symm⟩
def Gq(g lm lr l8:Nat)(S:Nat->Prop):Prop:=∀ k,S k↔k=g\/k=g+1\/k=lm\/k=lr\/k=l8
def Gp(w:World)(g lm lr l8:Nat)(fv:Value)(m n:List UInt8)(pre:List (List UInt8))(S:Nat->Prop)(W:World):Prop:=
 Gq g lm lr l8 S/\Boxed W g 3 (.int .i64 0)/\Boxed W (g+1) 37 (.int .i64 0)/\Boxed W l8 273 fv/\
 (∃ rem,rG W lm lr rem/\∀ rest,Np.bI m=pre++rest->Np.m9 (Np.bI m) (Np.bI n)=Np.m9 rest rem)/\Below w.heap.size w W
def Gr(w:World)(g lm lr l8:Nat)(m n:List UInt8)(c:Code)(_:List (List UInt8))(S:Nat->Prop)(W:World):Prop:=
 c = .ret/\Gq g lm lr l8 S/\Boxed W g 3 (.int .i64 (Np.m9 (Np.bI m) (Np.bI n)))/\Boxed W (g+1) 37 (.int .i64 0)/\Below w.heap.size w W
theorem OQ(w:World)(g lm lr l8:Nat)(fv:Value)(m n:List UInt8)(B:Nat)(hB:w.heap.size<=B):fO B (Gp w g lm lr l8 fv m n):=by
 rintro s S W W' ⟨hS,h1,h2,h3,⟨rem,h4,h5⟩,h6⟩ ax;exact⟨hS,iK h1 ax ((hS _).2 (.inl rfl)),iK h2 ax ((hS _).2 (.inr (.inl rfl))),iK h3 ax ((hS _).2 (.inr (.inr (.inr (.inr rfl))))),
  ⟨rem,h4.it ax ((hS _).2 (.inr (.inr (.inl rfl)))) ((hS _).2 (.inr (.inr (.inr (.inl rfl))))),h5⟩,qF h6 ax hB (bQ _)⟩
theorem Y2(w:World)(g lm lr l8:Nat)(m n:List UInt8)(B:Nat)(hB:w.heap.size<=B)(c:Code):fO B (Gr w g lm lr l8 m n c):=by
 rintro s S W W' ⟨hc,hS,h1,h2,h6⟩ ax;exact⟨hc,hS,iK h1 ax ((hS _).2 (.inl rfl)),iK h2 ax ((hS _).2 (.inr (.inl rfl))),qF h6 ax hB (bQ _)⟩
theorem II.rd{W W':World}{lm lr:Nat}{rem:List (List UInt8)}{e:Ending}(h:II W lm lr rem e W'):(rem = []/\e = .returned (.tuple #[.string ⟨#[]⟩,.bool false])/\W'=W)\/
 ∃ x rest,rem=x::rest/\e = .returned (.tuple #[aI x,.bool true])/\rG W' lm lr rest/\(∀ S:Nat->Prop,S lm->S lr->RdStep S W W')/\(∀ b t v,b≠lm->b≠lr->Boxed W b t v->Boxed W' b t v)/\(∀ (n:Nat) (w:World),n<=lm->n<=lr->Below n w W->Below n w W'):=by
 rcases h with h | ⟨x,rest,h1,h2,h3,b,u,hb,rfl⟩
 ·exact .inl h
 ·refine .inr ⟨x,rest,h1,h2,h3,λS s1 s2=>?_,λb' t v n1 n2 hv=>eP hv (by rcases hb with rfl | rfl<;>assumption) _,λn w n1 n2 hB=>hB.setCell (p:=⟨b,0,none⟩) (by rcases hb with rfl | rfl<;>assumption) _⟩;exact RdStep.setCell (RdStep.refl S W) (.inl (by rcases hb with rfl | rfl<;>assumption)) _
theorem OU{w:World}{lm lr l8:Nat}{fv:Value}{m n:List UInt8}{pre:List (List UInt8)}{S:Nat->Prop}{W W3:World}{a:Act}{v0 v1:Value}{q:Int}(hS:Gq w.heap.size lm lr l8 S)
 (hr:RdStep S W W3) (ab:∀ k,S k->k<W.heap.size) (c0:Boxed W3 w.heap.size 3 v0) (c1:Boxed W3 (w.heap.size+1) 37 v1) (hB:Below w.heap.size w W3) (hv:Np.m9 (Np.bI m) (Np.bI n)=q) :
 qG (Gp w w.heap.size lm lr l8 fv m n) (Gr w w.heap.size lm lr l8 m n) pre S W .ret a ((W3.setCell ⟨w.heap.size,0,none⟩ (.int .i64 q)).setCell ⟨w.heap.size+1,0,none⟩ (.int .i64 0)):=
 ⟨S,(hr.setCell (.inl ((hS _).2 (.inl rfl))) _).setCell (.inl ((hS _).2 (.inr (.inl rfl)))) _,λ_ e=>.inl e,λk e=>by have:=ab k e;have:=hr.size;simp[World.setCell];omega,rfl,hS,
  by rw[hv];exact eP (c0.set _) (by simp) _,(eP c1 (by simp) _).set _,(hB.setCell (bQ _) _).setCell (by simp) _⟩
def cmpVal(a b:List UInt8):Value:=if Np.al a&&Np.al b then .tuple #[.int .i64 (Np.aL a b),.int .i64 0] else .tuple #[.int .i64 0,.int .i64 11]
theorem compare_any(a b:ByteArray)(ha:a.size<=140737488355328)(hb:b.size<=140737488355328)(w:World) :
 Calls prog 137 #[.string a,.string b] w λe w'=>e = .returned (cmpVal a.data.toList b.data.toList)/\Below w.heap.size w w':=by
 refine (callsIn_wide (n:=0)).1 ?_;refine callsIn_of_wp_marks func137 rfl trivial ?_ rfl;simp only[ntmps137,List.size_toArray,List.length_cons,List.length_nil,Nat.reduceAdd,Nat.reduceSub,Array.replicate_succ,Array.replicate_zero,List.push_toArray,List.append_toArray,List.nil_append,List.cons_append];have b0:=Boxed.new w 3 (.int .i64 0);have b1:=Boxed.new (w.alloc (.cells #[.int .i64 0] 3)) 37 (.int .i64 0);rw[World.size_alloc] at b1;replace b0:=b0.alloc (.cells #[.int .i64 0] 37);have dz:Below w.heap.size w ((w.alloc (.cells #[.int .i64 0] 3)).alloc (.cells #[.int .i64 0] 37)):=((vQ _ w).alloc (bQ _) _).alloc (by simp) _;gi_wp2_with fail;refine⟨trivial,rfl,?_⟩;refine (callsIn_wide.2 (valid_any a ha _)).mono ?_;rintro e w1 ⟨rfl,av⟩;replace b0:=ej b0 av (by simp;omega);replace b1:=ej b1 av (by simp);replace dz:=dz.trans (av.mono (by simp;omega));clear av;have rT:∀ (W:World) (tmps:Array Value),Boxed W w.heap.size 3 (.int .i64 0)->Boxed W (w.heap.size+1) 37 (.int .i64 11)->Below w.heap.size w W->(Np.al a.data.toList&&Np.al b.data.toList)=false->
  tmps[4]?=some (.pointer (some ⟨w.heap.size,0,none⟩))->tmps[5]?=some (.pointer (some ⟨w.heap.size+1,0,none⟩))->
  bodyPostM Fence.wide 0 prog Tryz.f137 (λe w'=>e = .returned (cmpVal a.data.toList b.data.toList)/\Below w.heap.size w w') .ret { tmps:=tmps,defers:=[] } W:=λW tmps c0 c1 hB hv t4 t5=>by
  have d0:=c0.cell;have d1:=c1.cell;exact nf (v:=.tuple #[.int .i64 0,.int .i64 11]) (by simp[results,results137,go_sem,d0,d1,t4,t5]) ⟨by rw[cmpVal,hv];rfl,hB⟩
 have xN:=jq rT;clear rT;have c0:=b0.cell;have c1:=b1.cell;have f0:=b0.frozen;have f1:=b1.frozen
 cases va:Np.al a.data.toList with
 | false=>
  gi_wp2_with fail;refine⟨trivial,?_⟩;gi_wp2_with fail;refine xN.out _ _ (eP (b0.set _) (by simp) _) ((eP b1 (by simp) _).set _) ((dz.setCell (bQ _) _).setCell (by simp) _) (by rw[va];rfl) rfl rfl
 | true=>
  have VA:=jq va;clear va c0 c1 f0 f1;gi_wp2_with fail;refine⟨trivial,rfl,?_⟩;refine (callsIn_wide.2 (valid_any b hb _)).mono ?_;rintro e w2 ⟨rfl,aa⟩;have bU:w.heap.size+1<w1.heap.size:=b1.lt;replace b0:=ej b0 aa (by omega);replace b1:=ej b1 aa bU;replace dz:=dz.trans (aa.mono (by omega));have fH:=aa.size;clear aa;have c0:=b0.cell;have c1:=b1.cell;have f0:=b0.frozen;have f1:=b1.frozen
  cases vb:Np.al b.data.toList with
  | false=>
   gi_wp2_with fail;refine xN.out _ _ (eP (b0.set _) (by simp) _) ((eP b1 (by simp) _).set _) ((dz.setCell (bQ _) _).setCell (by simp) _) (by rw[vb,Bool.and_false]) rfl rfl
  | true=>
   have VV:Hid ((Np.al a.data.toList&&Np.al b.data.toList)=true):=jq (by rw[VA.out,vb];rfl);clear vb VA xN;by_cases kg:a.data.toList=b.data.toList
   ·have ajQ:(a.toList == b.toList)=true:=by rw[dQ,dQ,kg];simp
    gi_wp2_with fail;have d0:=(eP (b0.set (.int .i64 0)) (p:=⟨w.heap.size+1,0,none⟩) (by simp) (.int .i64 0)).cell;have d1:=((eP b1 (p:=⟨w.heap.size,0,none⟩) (by simp) (.int .i64 0)).set (.int .i64 0)).cell;exact nf (v:=.tuple #[.int .i64 0,.int .i64 0]) (by simp[results,results137,go_sem,d0,d1]) ⟨by rw[cmpVal,VV.out,kg];simp[Np.aL],(dz.setCell (bQ _) _).setCell (by simp) _⟩
   ·have ajQ:(a.toList == b.toList)=false:=by rw[dQ,dQ];simpa using kg
    have HV:Hid (cmpVal a.data.toList b.data.toList = .tuple #[.int .i64 (Np.m9 (Np.bI a.data.toList) (Np.bI b.data.toList)),.int .i64 0]):=jq (by rw[cmpVal,VV.out];simp[Np.aL,kg]);clear kg;gi_wp2_with fail;refine⟨trivial,rfl,?_⟩;refine (callsIn_wide.2 (a0Q b hb _)).mono ?_;rintro e w3 ⟨rfl,zg,ai,fI⟩;have pk:=jq fI;clear fI;replace b0:=ej b0 ai (by omega);replace b1:=ej b1 ai (by omega);replace dz:=dz.trans (ai.mono (by omega));clear ai;have hl:=dz.size;have b8:=Boxed.new w3 273 (.func (.func 297) #[] #[.pointer (some ⟨w2.heap.size+1,0,none⟩),.pointer (some ⟨w2.heap.size,0,none⟩)]);replace b0:=b0.alloc (.cells #[.func (.func 297) #[] #[.pointer (some ⟨w2.heap.size+1,0,none⟩),.pointer (some ⟨w2.heap.size,0,none⟩)]] 273);replace b1:=b1.alloc (.cells #[.func (.func 297) #[] #[.pointer (some ⟨w2.heap.size+1,0,none⟩),.pointer (some ⟨w2.heap.size,0,none⟩)]] 273);replace zg:rG (w3.alloc (.cells #[.func (.func 297) #[] #[.pointer (some ⟨w2.heap.size+1,0,none⟩),.pointer (some ⟨w2.heap.size,0,none⟩)]] 273)) (w2.heap.size+1) w2.heap.size (Np.bI b.data.toList):=zg.it (B:=w3.heap.size) (S:=λ_=>True) (zz _) trivial trivial;replace dz:=dz.alloc dz.size (.cells #[.func (.func 297) #[] #[.pointer (some ⟨w2.heap.size+1,0,none⟩),.pointer (some ⟨w2.heap.size,0,none⟩)]] 273);clear c0 c1 f0 f1;have n8:=Boxed.new w3 273 .nilFunc;have n8c:=n8.cell;have n8f:=n8.frozen;gi_wp2_with fail;clear n8 n8c n8f;have hEG:=enters_of func297 (by kernel_rfl) rfl;have Ko:w.heap.size+1<w2.heap.size:=by omega
    have eU:w3.heap.size=w2.heap.size+2:=pk.out;refine LU (n₀:=w.heap.size) (w0:=w) (first:=#[.string a]) (captured:=#[]) (gf:=215) rfl (enters_of func215 (by kernel_rfl) rfl) (mk:=λy=>#[.string a,y]) (λ_=>rfl)
     (IR a ha _ w) dz dz.size (λ_=>rfl) (Gp w w.heap.size (w2.heap.size+1) w2.heap.size w3.heap.size (.func (.func 297) #[] #[.pointer (some ⟨w2.heap.size+1,0,none⟩),.pointer (some ⟨w2.heap.size,0,none⟩)]) a.data.toList b.data.toList)
     (Gr w w.heap.size (w2.heap.size+1) w2.heap.size w3.heap.size a.data.toList b.data.toList)
     (OQ _ _ _ _ _ _ _ _ _ dz.size) (λc=>Y2 _ _ _ _ _ _ _ _ dz.size c)
     (λk=>k=w.heap.size\/k=w.heap.size+1\/k=w2.heap.size+1\/k=w2.heap.size\/k=w3.heap.size) (by intro k h;omega) (by intro k h;simp;omega)
     ⟨λ_=>Iff.rfl,b0,b1,b8,⟨_,zg,λrest h=>by rw[h];rfl⟩,dz⟩ ?round ?done ?stop
    case round=>
     rintro l0 pre x S W bM hI ed;clear eU;gi_wp2;refine⟨S,RdStep.refl _ _,λk e=>.inl e,ed,?_⟩;intro l W₂ ax;obtain⟨hS,c0,c1,c8,⟨rem,hp,Cv⟩,hB⟩:=OQ w w.heap.size _ _ _ _ _ _ _ dz.size pre S W W₂ hI ax;have c8c:=c8.cell;have iM:∀ k,S k->k<W₂.heap.size:=λk e=>lQ (ed k e) ax.size;have hx:x∈Np.bI a.data.toList:=bM.subset (by simp);have ur:x.length<=140737488355328:=by have:=Np.Bi hx;rw[bj] at this;omega
     obtain⟨rest,sF⟩:=bM;have jL:=Cv (x::rest) (by rw[<-sF];simp);have HR:=jq sF;have HG:=jq jL;clear sF jL Cv hx hI ax b0 b1 b8 zg;gi_wp2_with fail;refine⟨trivial,rfl,?_⟩;refine (CallsIn.inRound l (callsIn_wide.2 (aSX (w2.heap.size+1) w2.heap.size (by omega) rem _ hp))).mono ?_;intro e W3 hP;rcases hP.rd with ⟨nI,rfl,rfl⟩ | ⟨y,rem',nI,rfl,hp',bJ,cF,b7⟩
     ·have c0c:=c0.cell;have c1c:=c1.cell;have c0f:=c0.frozen;have c1f:=c1.frozen;have Ij:=jq nI;clear nI hP;gi_wp2_with fail;exact OU hS (RdStep.refl S _) iM c0 c1 hB (by rw[HG.out,Ij.out];rfl)
     ·have Ij:=jq nI;replace c0:=cF _ _ _ (by omega) (by omega) c0;replace c1:=cF _ _ _ (by omega) (by omega) c1;replace c8:=cF _ _ _ (by have:=pk.out;omega) (by have:=pk.out;omega) c8;have KC:=bJ S ((hS _).2 (.inr (.inr (.inl rfl)))) ((hS _).2 (.inr (.inr (.inr (.inl rfl)))));have hB':=b7 w.heap.size w (by omega) (by omega) hB;have c0c:=c0.cell;have c1c:=c1.cell;have c0f:=c0.frozen;have c1f:=c1.frozen;clear nI hP bJ cF b7 c8c hp hB;have jL:Np.m9 (Np.bI a.data.toList) (Np.bI b.data.toList)=if Np.cE x y≠0 then Np.cE x y else Np.m9 rest rem':=by rw[HG.out,Ij.out];rfl
      have MP:=jq jL;clear jL HG;have bP:=biJ ⟨x.toArray⟩ ⟨y.toArray⟩ W3;by_cases hc:Np.cE x y=0
      ·have dE:(Np.cE x y != 0)=false:=by simp[hc]
       have HC:=jq hc;clear hc;gi_wp2_with (refine⟨trivial,rfl,?_⟩;gi_at_call 216;refine (CallsIn.inRound l (callsIn_wide.2 bP)).mono ?_;rintro e w' ⟨rfl,rfl⟩);refine⟨S,KC,λ_ e=>.inl e,λk e=>by have:=iM k e;have:=KC.size;omega,hS,c0,c1,c8,⟨rem',hp',λr hr=>?_⟩,hB'⟩
       have:r=rest:=List.append_cancel_left (hr.symm.trans HR.out.symm)
       rw[MP.out,Qc (λh=>h HC.out),this]
      ·have dE:(Np.cE x y != 0)=true:=by simpa using hc
       have HC:=jq hc;clear hc;gi_wp2_with (refine⟨trivial,rfl,?_⟩;gi_at_call 216;refine (CallsIn.inRound l (callsIn_wide.2 bP)).mono ?_;rintro e w' ⟨rfl,rfl⟩);exact OU hS KC iM c0 c1 hB' (by rw[MP.out,Qb HC.out])
    case done=>
     rintro D S W hD el bR ⟨hS,c0,c1,c8,⟨rem,hp,Cv⟩,hB⟩ hK;clear eU b0 b1 b8 zg;have c0c:=c0.cell;have c1c:=c1.cell;have c0f:=c0.frozen;have c1f:=c1.frozen;have rZ:Np.m9 (Np.bI a.data.toList) (Np.bI b.data.toList) = -1:=by rw[Cv [] (by simp)];rfl
     have HE:=jq rZ;have rM:w.heap.size≠D:=λe=>el ((hS _).2 (.inl e.symm));have Ey:w.heap.size+1≠D:=λe=>el ((hS _).2 (.inr (.inl e.symm)));have Jl:w.heap.size<=D:=by have:=dz.size;omega
     clear rZ Cv hp c8;gi_wp2;have hK':((W.setCell ⟨w.heap.size,0,none⟩ (.int .i64 (-1))).setCell ⟨w.heap.size+1,0,none⟩ (.int .i64 0)).heap[D]?=some (.deferred (some [])):=
      (wQ _ _ _ _ (by simpa using Ey.symm)).trans ((wQ _ _ _ _ (by simpa using rM.symm)).trans hK)
     have d0:=(rJ (eP (c0.set (.int .i64 (-1))) (p:=⟨w.heap.size+1,0,none⟩) (by simp) (.int .i64 0)) rM (.deferred none)).cell;have d1:=(rJ ((eP c1 (p:=⟨w.heap.size,0,none⟩) (by simp) (.int .i64 (-1))).set (.int .i64 0)) Ey (.deferred none)).cell;exact mv hK' (v:=.tuple #[.int .i64 (-1),.int .i64 0]) (by simp[results,results137,go_sem,d0,d1]) ⟨by rw[HV.out,HE.out],lT ((hB.setCell (bQ _) _).setCell (by simp) _) Jl _⟩
    case stop=>
     rintro D c pre S W hD el bR g8 ⟨rfl,hS,c0,c1,hB⟩ hK;clear eU b0 b1 b8 zg;have rM:w.heap.size≠D:=λe=>el ((hS _).2 (.inl e.symm));have Ey:w.heap.size+1≠D:=λe=>el ((hS _).2 (.inr (.inl e.symm)));have Jl:w.heap.size<=D:=by have:=dz.size;omega
     gi_wp2;have d0:=(rJ c0 rM (.deferred none)).cell;have d1:=(rJ c1 Ey (.deferred none)).cell;exact mv hK (v:=.tuple #[.int .i64 (Np.m9 (Np.bI a.data.toList) (Np.bI b.data.toList)),.int .i64 0]) (by simp[results,results137,go_sem,d0,d1]) ⟨by rw[HV.out],lT hB Jl _⟩
end D
section
open Go.RowKit
def cmpVal(a b:List UInt8):Value:=if Np.al a&&Np.al b then .tuple #[.int .i64 (Np.aL a b),.int .i64 0] else .tuple #[.int .i64 0,.int .i64 11]
theorem compare_any(a b:ByteArray)(ha:a.size<=140737488355328)(hb:b.size<=140737488355328)(w:World) :
 Calls prog 137 #[.string a,.string b] w (ahZ w.heap.size w (cmpVal a.data.toList b.data.toList)):=
 (D.compare_any a b ha hb w).mono λ_ _ h=>⟨h.1,h.2.low⟩
end
namespace Np
inductive Res (α:Type) where
 | ok (a:α) (r:List Tok)
 | err (e:Int) (r:List Tok)
deriving DecidableEq
structure Diag where
 err:Int
 pos:Int
deriving DecidableEq
def okR:List (List UInt8)->Bool
 | []=>true
 | [x]=>bX x||x == [42]
 | x::y::r=>bX x&&okR (y::r)
theorem bhX:bX [42]=false:=by decide
theorem adY(xs:List (List UInt8))(n:Nat):fl xs n true=xs.isEmpty:=by cases xs<;>simp[fl]
theorem adX:∀ (xs:List (List UInt8)) (n:Nat),n<=8->fl xs n false=(decide (n+xs.length<=8)&&okR xs):=by
 intro xs
 induction xs with
 | nil=>intro n hn;simp[fl,okR,hn]
 | cons x xs ih=>
  intro n hn;rw[fl];by_cases h8:8<n+1
  ·rw[Qb (by simp;omega),tQ (by simp;omega)];rfl
  ·rw[Qc (by simp;omega)];by_cases hx:x = [42]
   ·subst hx;rw[Qb rfl,adY]
    cases xs with
    | nil=>simp[okR];omega
    | cons y r=>simp[okR,bhX]
   ·rw[Qc hx];by_cases hl:bX x=true
    ·rw[Qb hl,ih (n+1) (by omega)]
     cases xs with
     | nil=>simp[okR,hl]
     | cons y r=>simp only[okR,hl,Bool.true_and,List.length_cons];congr 1;congr 1;apply propext;omega
    ·rw[Qc hl]
     cases xs with
     | nil=>simp[okR,hl,hx]
     | cons y r=>simp[okR,hl]
def jU:List (List UInt8)->Bool
 | []=>true
 | h::t=>(bX h||h == [42])&&t.all bX
theorem aVZ:∀ (a:List (List UInt8)) (h:List UInt8),okR (a ++ [h])=(a.all bX&&(bX h||h == [42])):=by
 intro a h
 induction a with
 | nil=>simp[okR]
 | cons x a ih=>
  cases a with
  | nil=>simp[okR]
  | cons y r=>
   simp only[List.cons_append,okR] at ih |-;rw[ih];simp[Bool.and_assoc]
theorem aVQ(l:List (List UInt8)):okR l.reverse=jU l:=by
 cases l with
 | nil=>rfl
 | cons h t=>rw[List.reverse_cons,aVZ,jU,List.all_reverse,Bool.and_comm]
theorem Dc(s:List UInt8):al s=if s = [46] then true else if 60<s.length then false else jU (bl s)&&decide ((bl s).length<=8):=by
 unfold al;split
 ·rfl
 ·split
  ·rfl
  ·rw[adX _ 0 (by omega),aVQ,List.length_reverse,Bool.and_comm];simp
def em:List (List UInt8)->List UInt8
 | []=>[]
 | [x]=>x
 | x::y::r=>x++46::em (y::r)
theorem aKQ(c:UInt8)(x:List UInt8)(xs:List (List UInt8)):em ((c::x)::xs)=c::em (x::xs):=by
 cases xs<;>simp[em]
theorem zB(s:List UInt8):em (bl s)=s:=by
 induction s with
 | nil=>rfl
 | cons c r ih=>
  rw[bl];have hne:=qf r
  cases hr:bl r with
  | nil=>exact absurd hr hne
  | cons x xs=>
   rw[hr] at ih;split
   ·rename_i hc;subst hc;rw[em,ih];rfl
   ·rw[aKQ,ih]
theorem aJY:∀ (l m:List (List UInt8)),l≠[]->m≠[]->em (l++m)=em l++46::em m:=by
 intro l
 induction l with
 | nil=>intro m h;exact absurd rfl h
 | cons x l ih=>
  intro m _ hm
  cases l with
  | nil=>
   cases m with
   | nil=>exact absurd rfl hm
   | cons y m=>simp[em]
  | cons y l=>
   have:=ih m (by simp) hm
   simp only[List.cons_append,em] at this |-;rw[this];simp
def bO(s:List UInt8):List (List UInt8):=if s = [46] then [] else bl s
theorem rg(s:List UInt8):(bO s).reverse=bI s:=by
 unfold bO bI;split<;>rfl
theorem yA{a b:List UInt8}(h:bI a=bI b):a=b:=by
 unfold bI at h;by_cases ha:a = [46]
 ·by_cases hb:b = [46]
  ·rw[ha,hb]
  ·rw[Qb ha,Qc hb] at h
   have:=qf b
   exact absurd (List.reverse_eq_nil_iff.1 h.symm) this
 ·by_cases hb:b = [46]
  ·rw[Qb hb,Qc ha] at h;exact absurd (List.reverse_eq_nil_iff.1 h) (qf a)
  ·rw[Qc ha,Qc hb] at h
   have:=List.reverse_inj.1 h
   rw[<-zB a,this,zB]
def inL(l m:List (List UInt8)):Bool:=decide (m.length<=l.length)&&(l.drop (l.length - m.length) == m)
theorem CQ{l m:List (List UInt8)} : inL l m=true↔∃ p,l=p++m:=by
 unfold inL;simp only[Bool.and_eq_true,Qa,beq_iff_eq];constructor
 ·rintro⟨h1,h2⟩;refine⟨l.take (l.length - m.length),?_⟩;rw[<-h2,List.length_drop]
  conv => lhs;rw[<-List.take_append_drop (l.length - m.length) l]
  congr 2;omega
 ·rintro⟨p,rfl⟩;refine⟨by simp,?_⟩;rw[List.length_append,Nat.add_sub_cancel,List.drop_left]
theorem ut{s z:List UInt8}(hz:z≠[]):inL (bO s) (bO z)=aX s z:=by
 rw[Bool.eq_iff_iff,CQ];unfold aX bO;simp only[Bool.or_eq_true,Bool.and_eq_true,beq_iff_eq,Qa];by_cases h1:z = [46]
 ·rw[Qb h1];exact⟨λ_=>.inl (.inr h1),λ_=>⟨_,(List.append_nil _).symm⟩⟩
 ·rw[Qc h1];by_cases h2:s = [46]
  ·rw[Qb h2];constructor
   ·rintro⟨p,hp⟩
    have:=List.append_eq_nil_iff.1 hp.symm
    exact absurd this.2 (qf z)
   ·rintro ((h | h) | ⟨⟨h3,_⟩,_⟩)
    ·exact absurd (h ▸ h2) h1
    ·exact absurd h h1
    ·subst h2;have h4:z.length<1:=h3;exact absurd (rQ (by omega)) hz
  ·rw[Qc h2];constructor
   ·rintro⟨p,hp⟩;by_cases h0:p = []
    ·subst h0;rw[List.nil_append] at hp;left;left;rw[<-zB s,hp,zB]
    ·right;have hs:s=em p++46::z:=by
      rw[<-zB s,hp,aJY _ _ h0 (qf z),zB]
     subst hs;refine⟨⟨by simp;omega,?_⟩,?_⟩
     ·rw[show (em p++46::z).length - z.length=(em p ++ [46]).length by simp;omega,show em p++46::z=(em p ++ [46])++z by simp,List.drop_left]
     ·rw[show (em p++46::z).length - z.length - 1=(em p).length by simp;omega];rw[oQ (bQ _)];simp
   ·rintro ((h | h) | ⟨⟨h3,h4⟩,h5⟩)
    ·exact⟨[],by rw[h];rfl⟩
    ·exact absurd h h1
    ·have hs:s=s.take (s.length - z.length - 1)++46::z:=by
      conv => lhs;rw[<-List.take_append_drop (s.length - z.length - 1) s]
      congr 1;obtain⟨hl,he⟩:=cQ.1 h5;rw[sQ hl,he,show s.length - z.length - 1+1=s.length - z.length by omega,h4]
     refine⟨bl (s.take (s.length - z.length - 1)),?_⟩
     conv => lhs;rw[hs]
     rw[xC]
def cI:List (List UInt8)->List (List UInt8)->Int
 | [],[]=>0
 | [],_::_=>-1
 | _::_,[]=>1
 | x::xs,y::ys=>if cE x y≠0 then cE x y else cI xs ys
theorem vH(x:List UInt8):cE x x=0:=by
 have:∀ x:List UInt8,Go.Op.bytesLess x x=false:=by
  intro x
  induction x with
  | nil=>rfl
  | cons a x ih=>simp[Go.Op.bytesLess,ih]
 simp[cE,this]
theorem rK{x y:List UInt8}(h:cE x y=0):x=y:=by
 unfold cE at h;split at h
 ·omega
 ·split at h
  ·assumption
  ·omega
theorem SI(l:List (List UInt8)):cI l l=0:=by
 induction l with
 | nil=>rfl
 | cons x l ih=>rw[cI,vH,Qc (by simp),ih]
theorem aVX:∀ (l m:List (List UInt8)),l≠m->cI l m=m9 l m:=by
 intro l
 induction l with
 | nil=>
  intro m h
  cases m with
  | nil=>exact absurd rfl h
  | cons y m=>rfl
 | cons x l ih=>
  intro m h
  cases m with
  | nil=>rfl
  | cons y m=>
   rw[cI,m9];by_cases hc:cE x y≠0
   ·rw[Qb hc,Qb hc]
   ·rw[Qc hc,Qc hc]
    have:=rK (Decidable.not_not.1 hc)
    subst this;exact ih m (λe=>h (by rw[e]))
theorem Bn(a b:List UInt8):aL a b=cI (bI a) (bI b):=by
 unfold aL;split
 ·rename_i h;rw[h,SI]
 ·rename_i h;exact (aVX _ _ (λe=>h (yA e))).symm
theorem Bo(a:List UInt8):aL a a=0:=by simp[aL]
theorem Eh{a b:List UInt8}(h:aL a b=0):a=b:=by
 rw[Bn] at h;refine yA ?_
 have:∀ l m:List (List UInt8),cI l m=0->l=m:=by
  intro l
  induction l with
  | nil=>intro m h;cases m with
    | nil=>rfl
    | cons y m=>simp[cI] at h
  | cons x l ih=>
   intro m h
   cases m with
   | nil=>simp[cI] at h
   | cons y m=>
    rw[cI] at h;split at h
    ·rename_i hc;exact absurd h hc
    ·rename_i hc;rw[rK (Decidable.not_not.1 hc),ih m h]
 exact this _ _ h
theorem Ei(a b:DSet):gE a b=if aL a.name b.name≠0 then aL a.name b.name else cL a.type b.type:=by
 unfold gE;by_cases h:a.name=b.name
 ·rw[Qc (by simp[h]),h,Bo,Qc (by simp)]
 ·rw[Qb h,Qb (λe=>h (Eh e))]
theorem YI:∀ (x y:List UInt8),Go.Op.bytesLess x y=false->x≠y->Go.Op.bytesLess y x=true:=by
 intro x
 induction x with
 | nil=>intro y h hn;cases y with
   | nil=>exact absurd rfl hn
   | cons b y=>simp[Go.Op.bytesLess] at h
 | cons a x ih=>
  intro y h hn
  cases y with
  | nil=>simp[Go.Op.bytesLess]
  | cons b y=>
   simp only[Go.Op.bytesLess] at h |-;by_cases h1:a<b
   ·simp[h1] at h
   ·by_cases h2:b<a
    ·simp[h2]
    ·have h3:a=b:=by
      apply UInt8.toNat_inj.1;simp only[UInt8.lt_iff_toNat_lt] at h1 h2;omega
     subst h3;simp[h1] at h |-;exact ih y h (λe=>hn (by rw[e]))
theorem yB(x y:List UInt8):(Go.Op.bytesLess x y=true/\cE x y = -1)\/(Go.Op.bytesLess x y=false/\Go.Op.bytesLess y x=true/\x≠y/\cE x y=1)\/(Go.Op.bytesLess x y=false/\Go.Op.bytesLess y x=false/\x=y/\cE x y=0):=by
 cases h:Go.Op.bytesLess x y with
 | true=>exact .inl ⟨rfl,by simp[cE,h]⟩
 | false=>
  by_cases hn:x=y
  ·subst hn;exact .inr (.inr ⟨rfl,h,rfl,vH x⟩)
  ·exact .inr (.inl ⟨rfl,YI x y h hn,hn,by simp[cE,h,hn]⟩)
def K3(a b:Datum):Bool:=if a.text≠b.text then Go.Op.bytesLess a.text b.text else if a.n≠b.n then decide (a.n<b.n) else decide (a.m<b.m)
theorem aOK(a b:Datum):K3 a b=decide (qH a b<0):=by
 unfold K3 qH;rcases yB a.text b.text with ⟨h1,h2⟩ | ⟨h1,_,h3,h2⟩ | ⟨_,_,h3,h2⟩
 ·have hn:a.text≠b.text:=λe=>by rw[e,vH] at h2;omega
  rw[Qb hn,Qb (by omega),h1,h2];rfl
 ·rw[Qb h3,Qb (by omega),h1,h2];rfl
 ·rw[Qc (show ¬ a.text≠b.text from λe=>e h3),Qc (show ¬ cE a.text b.text≠0 from λe=>e h2)];by_cases h4:a.n=b.n
  ·rw[Qc (show ¬ a.n≠b.n from λe=>e h4)];have h5:cL a.n b.n=0:=by unfold cL;rw[Qc (by omega),Qc (by omega)]
   rw[Qc (show ¬ cL a.n b.n≠0 from λe=>e h5)];unfold cL;by_cases h6:a.m<b.m
   ·rw[Qb h6];simp[h6]
   ·by_cases h7:b.m<a.m
    ·rw[Qc h6,Qb h7];simp;omega
    ·rw[Qc h6,Qc h7];simp;omega
  ·rw[Qb (show a.n≠b.n from h4)];by_cases h6:a.n<b.n
   ·have h5:cL a.n b.n = -1:=by unfold cL;rw[Qb h6]
    rw[h5];simp[h6]
   ·have h5:cL a.n b.n=1:=by unfold cL;rw[Qc h6,Qb (by omega)]
    rw[h5];simp;omega
structure TO{α:Type}(c:α->α->Int):Prop where
 self:∀ x,c x x=0
 zero:∀ x y,c x y=0->x=y
 anti:∀ x y,c x y<0->0<c y x
 anti':∀ x y,0<c x y->c y x<0
 trans:∀ x y z,c x y<0->c y z<0->c x z<0
theorem TO.lex{α β γ:Type}{c:α->α->Int}{d:β->β->Int}(hc:TO c)(hd:TO d)(f:γ->α)(g:γ->β)(hfg:∀ x y,f x=f y->g x=g y->x=y):TO (λx y:γ=>if c (f x) (f y)≠0 then c (f x) (f y) else d (g x) (g y)) where
 self x:=by simp[hc.self,hd.self]
 zero x y h:=by
  by_cases h1:c (f x) (f y)≠0
  ·rw[Qb h1] at h;exact absurd h h1
  ·rw[Qc h1] at h;exact hfg x y (hc.zero _ _ (Decidable.not_not.1 h1)) (hd.zero _ _ h)
 anti x y h:=by
  by_cases h1:c (f x) (f y)≠0
  ·rw[Qb h1] at h
   have:=hc.anti _ _ h
   rw[Qb (by omega)];exact this
  ·rw[Qc h1] at h;have e:=hc.zero _ _ (Decidable.not_not.1 h1);rw[e,hc.self,Qc (by simp)];exact hd.anti _ _ h
 anti' x y h:=by
  by_cases h1:c (f x) (f y)≠0
  ·rw[Qb h1] at h
   have:=hc.anti' _ _ h
   rw[Qb (by omega)];exact this
  ·rw[Qc h1] at h;have e:=hc.zero _ _ (Decidable.not_not.1 h1);rw[e,hc.self,Qc (by simp)];exact hd.anti' _ _ h
 trans x y z h k:=by
  by_cases h1:c (f x) (f y)≠0
  ·rw[Qb h1] at h;by_cases h2:c (f y) (f z)≠0
   ·rw[Qb h2] at k
    have:=hc.trans _ _ _ h k
    rw[Qb (by omega)];exact this
   ·have e:=hc.zero _ _ (Decidable.not_not.1 h2);rw[<-e,Qb h1];exact h
  ·rw[Qc h1] at h;have e:=hc.zero _ _ (Decidable.not_not.1 h1);by_cases h2:c (f y) (f z)≠0
   ·rw[Qb h2] at k;rw[e,Qb h2];exact k
   ·rw[Qc h2] at k;rw[e,Qc h2];exact hd.trans _ _ _ h k
theorem TO.of{α β:Type}{c:α->α->Int}(hc:TO c)(f:β->α)(hf:∀ x y,f x=f y->x=y):TO (λx y=>c (f x) (f y)) where
 self _:=hc.self _
 zero _ _ h:=hf _ _ (hc.zero _ _ h)
 anti _ _ h:=hc.anti _ _ h
 anti' _ _ h:=hc.anti' _ _ h
 trans _ _ _ h k:=hc.trans _ _ _ h k
theorem Fw:∀ (x y:List UInt8),Go.Op.bytesLess x y=decide (x<y)
 | [],[]=>by simp[Go.Op.bytesLess]
 | _::_,[]=>by simp[Go.Op.bytesLess]
 | [],_::_=>by simp[Go.Op.bytesLess]
 | a::x,b::y=>by
   rw[Go.Op.bytesLess,Fw x y];simp only[List.cons_lt_cons_iff];by_cases h1:a<b<;>by_cases h2:a=b<;>by_cases h3:x<y<;>simp[h1,h2,h3]
theorem toS:TO cE where
 self:=vH
 zero _ _:=rK
 anti x y h:=by
  rcases yB x y with ⟨h1,h2⟩ | ⟨_,_,_,h2⟩ | ⟨_,_,_,h2⟩
  ·rcases yB y x with ⟨h3,h4⟩ | ⟨_,_,_,h4⟩ | ⟨_,_,h5,h4⟩
   ·rw[Fw,Qa] at h1 h3;exact absurd h3 (List.lt_asymm h1)
   ·omega
   ·rw[h5,vH] at h;omega
  ·omega
  ·omega
 anti' x y h:=by
  rcases yB x y with ⟨_,h2⟩ | ⟨_,h1,_,h2⟩ | ⟨_,_,_,h2⟩
  ·omega
  ·simp[cE,h1]
  ·omega
 trans x y z h k:=by
  have e:∀ a b:List UInt8,cE a b<0->a<b:=λa b h=>by
   rcases yB a b with ⟨h1,h2⟩ | ⟨_,_,_,h2⟩ | ⟨_,_,_,h2⟩
   ·rw[Fw,Qa] at h1;exact h1
   ·omega
   ·omega
  have:=List.lt_trans (e _ _ h) (e _ _ k)
  unfold cE;rw[Fw,Qb (by simpa using this)];omega
theorem toI:TO cL where
 self x:=by unfold cL;rw[Qc (by omega),Qc (by omega)]
 zero x y h:=by unfold cL at h;split at h;omega;split at h<;>omega
 anti x y h:=by
  unfold cL at h |-;split at h
  ·rw[Qc (by omega),Qb (by omega)];omega
  ·split at h<;>omega
 anti' x y h:=by
  unfold cL at h |-;split at h
  ·omega
  ·split at h
   ·rw[Qb (by omega)];omega
   ·omega
 trans x y z h k:=by
  unfold cL at h k |-;split at h
  ·split at k
   ·rw[Qb (by omega)];omega
   ·split at k<;>omega
  ·split at h<;>omega
theorem toR:TO cI:=by
 have hs:=toS;refine⟨SI,?_,?_,?_,?_⟩
 ·intro l
  induction l with
  | nil=>intro m h;cases m with
    | nil=>rfl
    | cons y m=>simp[cI] at h
  | cons x l ih=>
   intro m h
   cases m with
   | nil=>simp[cI] at h
   | cons y m=>
    rw[cI] at h;split at h
    ·rename_i hc;exact absurd h hc
    ·rename_i hc;rw[rK (Decidable.not_not.1 hc),ih m h]
 ·intro l
  induction l with
  | nil=>intro m h;cases m with
    | nil=>simp[cI] at h
    | cons y m=>simp[cI]
  | cons x l ih=>
   intro m h
   cases m with
   | nil=>simp[cI] at h
   | cons y m=>
    rw[cI] at h |-;split at h
    ·have:=hs.anti _ _ h
     rw[Qb (by omega)];exact this
    ·rename_i hc;have e:=rK (Decidable.not_not.1 hc);subst e;rw[Qc hc];exact ih m h
 ·intro l
  induction l with
  | nil=>intro m h;cases m with
    | nil=>simp[cI] at h
    | cons y m=>simp[cI] at h
  | cons x l ih=>
   intro m h
   cases m with
   | nil=>simp[cI]
   | cons y m=>
    rw[cI] at h |-;split at h
    ·have:=hs.anti' _ _ h
     rw[Qb (by omega)];exact this
    ·rename_i hc;have e:=rK (Decidable.not_not.1 hc);subst e;rw[Qc hc];exact ih m h
 ·intro l
  induction l with
  | nil=>intro m n h k;cases m with
    | nil=>simp[cI] at h
    | cons y m=>cases n with
      | nil=>simp[cI] at k
      | cons z n=>simp[cI]
  | cons x l ih=>
   intro m n h k
   cases m with
   | nil=>simp[cI] at h
   | cons y m=>
    cases n with
    | nil=>simp[cI] at k
    | cons z n=>
     rw[cI] at h k |-;by_cases hc:cE x y≠0
     ·rw[Qb hc] at h;by_cases hd:cE y z≠0
      ·rw[Qb hd] at k
       have:=hs.trans _ _ _ h k
       rw[Qb (by omega)];exact this
      ·have e:=rK (Decidable.not_not.1 hd);rw[<-e,Qb hc];exact h
     ·rw[Qc hc] at h;have e:=rK (Decidable.not_not.1 hc);by_cases hd:cE y z≠0
      ·rw[Qb hd] at k;rw[e,Qb hd];exact k
      ·rw[Qc hd] at k;rw[e,Qc hd];exact ih m n h k
theorem eY:TO aL:=by
 have:=toR.of bI (λ_ _ h=>yA h)
 have e:aL=λx y=>cI (bI x) (bI y):=by funext x y;exact Bn x y
 rw[e];exact this
def eR(a b:List UInt8×Int):Int:=if aL a.1 b.1≠0 then aL a.1 b.1 else cL a.2 b.2
theorem xD:TO eR:=eY.lex toI (λd:List UInt8×Int=>d.1) (λd=>d.2) (λ_ _ h k=>Prod.ext h k)
def cx(s:DSet):List UInt8×Int:=(s.name,s.type)
theorem IV(a b:DSet):gE a b=eR (cx a) (cx b):=Ei a b
theorem aOJ{α:Type}{c:α->α->Int}(h:TO c)(x y z:α):(!decide (c y x<0))=true->(!decide (c z y<0))=true->(!decide (c z x<0))=true:=by
 simp only[Bool.not_eq_true',decide_eq_false_iff_not,Int.not_lt];intro h1 h2;apply Decidable.byContradiction;intro h3;have h4:c z x<0:=by omega
 rcases Int.lt_or_eq_of_le h1 with h5 | h5
 ·have:=h.trans _ _ _ h4 (h.anti' _ _ h5);omega
 ·have:=h.zero _ _ h5.symm;subst this;omega
theorem aOZ{α:Type}{c:α->α->Int}(h:TO c)(x y:α):((!decide (c y x<0))||(!decide (c x y<0)))=true:=by
 by_cases h1:c y x<0
 ·have:=h.anti _ _ h1
  have:¬ c x y<0:=by omega
  simp[this]
 ·simp[h1]
theorem oV{s z:List UInt8}(hz:z≠[]):aX s z=true↔bI z <+: bI s:=by
 rw[<-ut hz,CQ,<-rg,<-rg];constructor
 ·rintro⟨p,h⟩;exact⟨p.reverse,by rw[h,List.reverse_append]⟩
 ·rintro⟨p,h⟩;refine⟨p.reverse,?_⟩
  have:=Qd List.reverse h
  simpa using this.symm
theorem S5:∀ (c n:List (List UInt8)),c <+: n->cI c n<=0
 | [],[],_=>by simp[cI]
 | [],_::_,_=>by simp[cI]
 | x::c,[],h=>by have:=h.length_le;simp at this
 | x::c,y::n,h=>by
   obtain⟨rfl,h2⟩:=List.cons_prefix_cons.1 h;rw[cI,vH,Qc (by simp)];exact S5 c n h2
theorem SY:∀ (c a b:List (List UInt8)),c <+: b->cI c a<=0->cI a b<=0->c <+: a
 | [],a,b,_,_,_=>List.nil_prefix
 | x::c,[],b,_,h,_=>by simp[cI] at h
 | x::c,y::a,[],h,_,_=>by have:=h.length_le;simp at this
 | x::c,y::a,z::b,h,h1,h2=>by
   obtain⟨rfl,h3⟩:=List.cons_prefix_cons.1 h;rw[cI] at h1 h2;by_cases cH:cE x y=0
   ·have e:=rK cH;subst e;rw[vH,Qc (by simp)] at h1 h2;exact List.cons_prefix_cons.2 ⟨rfl,SY c a b h3 h1 h2⟩
   ·rw[Qb cH] at h1
    have:=toS.anti x y (by omega)
    rw[Qb (by omega)] at h2;omega
theorem Gi{s z:List UInt8}(hz:z≠[])(h:aX s z=true):aL z s<=0:=by
 rw[Bn];exact S5 _ _ ((oV hz).1 h)
theorem LE{c a b:List UInt8}(hc:c≠[])(h:aX b c=true)(h1:aL c a<=0)(h2:aL a b<=0):aX a c=true:=by
 rw[Bn] at h1 h2;exact (oV hc).2 (SY _ _ _ ((oV hc).1 h) h1 h2)
theorem LG{a b c:List UInt8}(hb:b≠[])(hc:c≠[])(h1:aX a b=true)(h2:aX b c=true):aX a c=true:=
 (oV hc).2 (((oV hc).1 h2).trans ((oV hb).1 h1))
theorem zM(a:List UInt8):aX a a=true:=by simp[aX]
theorem T3{n a b:List UInt8}(ha:a≠[])(hb:b≠[])(h1:aX n a=true)(h2:aX n b=true):aX a b=true\/aX b a=true:=by
 rcases List.prefix_or_prefix_of_prefix ((oV ha).1 h1) ((oV hb).1 h2) with h | h
 ·exact .inr ((oV ha).2 h)
 ·exact .inl ((oV hb).2 h)
def ja(C:List UInt8->Bool)(n o:List UInt8):Prop:=
 (o = []/\∀ c,C c=true->aX n c=false)\/(C o=true/\aX n o=true/\∀ c,C c=true->aX o c=true->c=o)
theorem ja.unique{C:List UInt8->Bool}(hC:∀ c,C c=true->c≠[]){n a b:List UInt8}(ha:ja C n a)(hb:ja C n b):a=b:=by
 rcases ha with ⟨rfl,ha⟩ | ⟨a1,a2,a3⟩
 ·rcases hb with ⟨rfl,_⟩ | ⟨b1,b2,_⟩
  ·rfl
  ·rw[ha b b1] at b2;cases b2
 ·rcases hb with ⟨rfl,hb⟩ | ⟨b1,b2,b3⟩
  ·rw[hb a a1] at a2;cases a2
  ·rcases T3 (hC a a1) (hC b b1) a2 b2 with h | h
   ·exact (a3 b b1 h).symm
   ·exact b3 a a1 h
theorem ja.above{C:List UInt8->Bool}(hC:∀ c,C c=true->c≠[]){n o c:List UInt8}(h:ja C n o)(hc:C c=true)(hu:aX n c=true):C o=true/\aX n o=true/\aX c o=true:=by
 rcases h with ⟨_,h⟩ | ⟨h1,h2,h3⟩
 ·rw[h c hc] at hu;cases hu
 ·refine⟨h1,h2,?_⟩;rcases T3 (hC o h1) (hC c hc) h2 hu with h | h
  ·rw[h3 c hc h];exact zM o
  ·exact h
def dC(C:List UInt8->Bool)(cut n:List UInt8):List UInt8:=
 if (if cut≠[]/\aX n cut=false then [] else cut) = []/\C n=true then n else if cut≠[]/\aX n cut=false then [] else cut
theorem TX{C:List UInt8->Bool}{n:List UInt8}(h:∀ c,C c=true->aX n c=true->c=n):ja C n (if C n=true then n else []):=by
 split
 ·rename_i hn;exact .inr ⟨hn,zM n,h⟩
 ·rename_i hn;refine .inl ⟨rfl,λc hc=>?_⟩
  cases hu:aX n c with
  | false=>rfl
  | true=>rw[<-h c hc hu] at hn;exact absurd hc hn
theorem biQ{C:List UInt8->Bool}(hC:∀ c,C c=true->c≠[]){n:List UInt8}(be:∀ c,C c=true->¬ aL c n<0):ja C n (dC C [] n):=by
 have h:=TX (n:=n) (λc hc hu=>by
  have h1:=Gi (hC c hc) hu;have h2:=be c hc;exact Eh (by omega))
 have e:dC C [] n=if C n=true then n else []:=by simp[dC]
 rw[e];exact h
theorem biZ{C:List UInt8->Bool}(hC:∀ c,C c=true->c≠[]){m cut n:List UInt8}(hm:ja C m cut)(fF:aL m n<=0)(be:∀ c,C c=true->aL c n<0->aL c m<=0):ja C n (dC C cut n):=by
 by_cases hcut:cut≠[]/\aX n cut=true
 ·have e:dC C cut n=cut:=by simp[dC,hcut.1,hcut.2]
  rw[e];rcases hm with ⟨h,_⟩ | ⟨h1,_,h3⟩
  ·exact absurd h hcut.1
  ·exact .inr ⟨h1,hcut.2,h3⟩
 ·have lu:∀ c,C c=true->aX n c=true->c=n:=λc hc hu=>by
   refine Classical.byContradiction λhne=>hcut ?_;have h1:=Gi (hC c hc) hu;have ab:aL c n<0:=by
    rcases Int.lt_or_eq_of_le h1 with h | h
    ·exact h
    ·exact absurd (Eh h) hne
   have h2:=LE (hC c hc) hu (be c hc ab) fF;obtain⟨a1,_,a3⟩:=hm.above hC hc h2;exact⟨hC _ a1,LG (hC c hc) (hC _ a1) hu a3⟩
  have h:=TX lu;have e:dC C cut n=if C n=true then n else []:=by
   unfold dC;by_cases h0:cut = []
   ·subst h0;simp
   ·have:aX n cut=false:=by
     cases hu:aX n cut with
     | false=>rfl
     | true=>exact absurd ⟨h0,hu⟩ hcut
    simp[h0,this]
  rw[e];exact h
structure Oe(C:List UInt8->Bool)(H:List (List UInt8)):Prop where
 cut:∀ h∈H,C h=true/\∀ c,C c=true->aX h c=true->c=h
 sorted:H.Pairwise λa b=>aL a b<0
theorem asQ{C:List UInt8->Bool}(hC:∀ c,C c=true->c≠[]){H:List (List UInt8)}(hH:Oe C H){n:List UInt8}(be:∀ h,C h=true->(∀ c,C c=true->aX h c=true->c=h)->aL h n<=0->h∈H){k:Nat}(hk:k<=H.length)(h1:∀ j (hj:j<H.length),j<k->aL H[j] n<=0)(h2:∀ j (hj:j<H.length),k<=j->0<aL H[j] n) :
 ja C n (if h:0<k/\aX n (H[k - 1]?.getD [])=true then H[k - 1]?.getD [] else []):=by
 have fG:∀ c,C c=true->aX n c=true->(∀ d,C d=true->aX c d=true->d=c)->0<k/\∃ ck:k - 1<H.length,H[k - 1]=c:=λc hc hu ht=>by
  have fF:=Gi (hC c hc) hu;obtain⟨j,hj,rfl⟩:=nQ.1 (be c hc ht fF);have wD:j<k:=by
   refine Nat.lt_of_not_le λh=>?_
   have:=h2 j hj h
   omega
  refine⟨by omega,by omega,?_⟩;rcases Nat.lt_or_ge j (k - 1) with h | h
  ·have h3:=List.pairwise_iff_getElem.1 hH.sorted j (k - 1) hj (by omega) h;have h4:=h1 (k - 1) (by omega) (by omega);have h5:=LE (hC _ hc) hu (by omega) h4;have h6:=(hH.cut _ (List.getElem_mem (show k - 1<H.length by omega))).2 _ hc h5;exact h6.symm
  ·obtain rfl:j=k - 1:=by omega
   rfl
 split
 ·rename_i h;obtain⟨h0,h⟩:=h;have hl:k - 1<H.length:=by omega
  rw[aQ hl] at h |-;obtain⟨a,b⟩:=hH.cut _ (List.getElem_mem hl);exact .inr ⟨a,h,b⟩
 ·rename_i h;refine .inl ⟨rfl,λc hc=>?_⟩
  cases hu:aX n c with
  | false=>rfl
  | true=>
   exfalso;have hex:∀ (m:Nat) (c:List UInt8),(bI c).length<=m->C c=true->aX n c=true->∃ t,C t=true/\aX n t=true/\∀ d,C d=true->aX t d=true->d=t:=by
    intro m
    induction m with
    | zero=>
     intro c hm hc hu;refine⟨c,hc,hu,λd hd JX=>?_⟩;have h3:=((oV (hC d hd)).1 JX);exact yA (h3.eq_of_length_le (by omega))
    | succ m ih=>
     intro c hm hc hu;by_cases ht:∀ d,C d=true->aX c d=true->d=c
     ·exact⟨c,hc,hu,ht⟩
     ·obtain⟨d,hd⟩:=Classical.not_forall.1 ht;obtain⟨fp,hd⟩:=Classical.not_imp.1 hd;obtain⟨lZ,J0⟩:=Classical.not_imp.1 hd;have h3:=((oV (hC d fp)).1 lZ);refine ih d ?_ fp (LG (hC c hc) (hC d fp) hu lZ);refine Nat.le_of_lt_succ (lQ (Nat.lt_of_not_le λhl=>J0 (yA (h3.eq_of_length_le hl))) hm)
   obtain⟨t,t1,t2,t3⟩:=hex _ c (bQ _) hc hu;obtain⟨p1,p2,p3⟩:=fG t t1 t2 t3;refine h ⟨p1,?_⟩;rw[aQ p2,p3];exact t2
end Np
section
open Go.RowKit
theorem a7Q{a b:Bool}(h:a=b):Ending.returned (.tuple #[.bool a,.int .i64 0]) = .returned (.tuple #[.bool b,.int .i64 0]):=by rw[h]
def Np.zK(s z:ByteArray):Bool:=decide (z.size<=s.size)&&((s.extract (s.size - z.size) s.size).toList == z.toList)
def Np.under(s z:ByteArray):Bool:=(s.toList == z.toList)||(z.toList == [46])||(decide (z.size<s.size)&&Np.zK s z&&((s.data.toList[s.size - z.size - 1]?).map UInt8.toNat == some 46))
theorem bjZ(s z:ByteArray)(h:z.size<=s.size):Np.zK s z=(s.data.toList.drop (s.data.toList.length - z.data.toList.length) == z.data.toList):=by
 unfold Np.zK;rw[uQ h,Bool.true_and,dQ,dQ,I3,bj,bj]
theorem blX(s z:ByteArray):Np.under s z=Np.aX s.data.toList z.data.toList:=by
 unfold Np.under Np.aX;rw[dQ,dQ,bj,bj];congr 1;by_cases h:z.size<s.size
 ·rw[bjZ s z (by omega),bj,bj,uQ h];congr 1;have e:s.data.toList[s.size - z.size - 1]?=some (s[s.size - z.size - 1]'(by omega)):=yF s _ (by omega);rw[e];simp only[Option.map_some];rw[Bool.eq_iff_iff];simp only[beq_iff_eq,Option.some.injEq];constructor
  ·intro h;apply UInt8.toNat_inj.1;rw[h];rfl
  ·intro h;rw[h];rfl
 ·rw[tQ h];rfl
theorem ajX(s z:ByteArray)(hs:s.size<=140737488355328)(hz:z.size<=140737488355328)(w:World) :
 Calls prog 320 #[.string s,.string z] w λe w'=>e = .returned (.bool (Np.zK s z))/\w'=w:=by
 go_enter func320,ntmps320;go_wp2_with fail
 all_goals
  go_ret;refine⟨ag ?_,rfl⟩;simp_all [Np.zK]<;>(intros;omega)
theorem ajK(s z:ByteArray)(hs:s.size<=140737488355328)(hz:z.size<=140737488355328)(w:World) :
 Calls prog 250 #[.string s,.string z] w λe w'=>e = .returned (.bool (Np.zK s z))/\w'=w:=by
 go_enter func250,ntmps250;go_wp2_with (go_at_call 320;refine (ajX s z hs hz _).mono ?_;rintro e w' ⟨rfl,rfl⟩);go_ret;exact⟨rfl,rfl⟩
theorem zN(s z:ByteArray)(hs:s.size<=140737488355328)(hz:z.size<=140737488355328)(w:World)(v1:Np.al s.data.toList=true)(v2:Np.al z.data.toList=true) :
 Calls prog 184 #[.string s,.string z] w (ahZ w.heap.size w (.tuple #[.bool (Np.aX s.data.toList z.data.toList),.int .i64 0])):=by
 rw[<-blX];have V1:=jq v1;have V2:=jq v2;clear v1 v2;go_enter func184,ntmps184;go_wp2_with (first
  | (go_at_call 175;have v1:=V1.out;clear V1;refine (valid_any s hs _).mono ?_;rintro e w1 ⟨rfl,hb⟩;rw[v1];clear v1;have aF:=jq hb;clear hb)
  | (go_at_call 175;have v2:=V2.out;clear V2;refine (valid_any z hz _).mono ?_;rintro e w2 ⟨rfl,hb⟩;rw[v2];clear v2;have ah:=jq hb;clear hb)
  | (go_at_call 250;refine (ajK s z hs hz _).mono ?_;rintro e w3 ⟨rfl,rfl⟩))
 all_goals
  go_ret2;refine⟨a7Q ?_,aF.out.trans (ah.out.mono aF.out.size)⟩;simp_all [Np.under,dQ]
 ·rename_i _ h1 h2 h3 _;have e1:(s.data == z.data)=false:=by simpa using h1
  have e2:(z.data.toList == [46])=false:=by simpa using h2
  have e3:s.data[s.size - z.size - 1]?=some s[s.size - z.size - 1]:=pQ (by simp;omega);rw[e1,e2,e3,Bool.eq_iff_iff];simp;omega
 ·intros;omega
theorem blY(s z:ByteArray)(hs:s.size<=140737488355328)(w:World)(v1:Np.al s.data.toList=false) :
 Calls prog 184 #[.string s,.string z] w (ahZ w.heap.size w (.tuple #[.bool false,.int .i64 11])):=by
 have V1:=jq v1;clear v1;go_enter func184,ntmps184;go_wp2_with fail;refine (valid_any s hs _).mono ?_;rintro e w1 ⟨rfl,hb⟩;rw[V1.out];have aF:=jq hb;clear hb;go_wp2_with fail;go_ret2;exact⟨rfl,aF.out⟩
theorem Uq(s1 s2:ByteArray)(bU:s1.size<=140737488355328)(fH:s2.size<=140737488355328)(t1 t2:Int)(n1:Np.al s1.data.toList=true)(n2:Np.al s2.data.toList=true)(w:World) :
 Calls prog 270 #[.string s1,.int .i64 t1,.string s2,.int .i64 t2] w
  λe w'=>e = .returned (.int .i64 (Np.eR (s1.data.toList,t1) (s2.data.toList,t2)))/\Below w.heap.size w w':=by
 have hv:cmpVal s1.data.toList s2.data.toList = .tuple #[.int .i64 (Np.aL s1.data.toList s2.data.toList),.int .i64 0]:=by rw[cmpVal,n1,n2];rfl
 have HV:=jq hv;clear hv n1 n2;by_cases h:s1.data.toList=s2.data.toList
 ·have he:(!s1.toList == s2.toList)=false:=by rw[dQ,dQ,h];simp
  have hc:Np.eR (s1.data.toList,t1) (s2.data.toList,t2)=Np.cL t1 t2:=by unfold Np.eR;dsimp only;rw[h,Np.Bo,Qc (by simp)]
  rw[hc];clear hc h;go_enter func270,ntmps270;go_wp2_with (go_at_call 123;refine (Bm _ _ _).mono ?_;rintro e w' ⟨rfl,rfl⟩);go_ret;exact⟨rfl,vQ _ _⟩
 ·have he:(!s1.toList == s2.toList)=true:=by rw[dQ,dQ];simpa using h
  have hc:Np.eR (s1.data.toList,t1) (s2.data.toList,t2)=Np.aL s1.data.toList s2.data.toList:=by unfold Np.eR;dsimp only;rw[Qb (λe=>h (Np.Eh e))]
  rw[hc];clear hc h;go_enter func270,ntmps270;go_wp2_with fail;refine (compare_any s1 s2 bU fH _).mono ?_;rintro e w1 ⟨rfl,hb⟩;rw[HV.out];have HB:=jq hb;clear hb;go_wp2_with fail;go_ret;exact⟨rfl,HB.out⟩
theorem zO{s:Np.DSet}(h:Np.dT s=true):Np.al s.name=true:=by
 unfold Np.dT at h;simp only[Bool.and_eq_true] at h;exact h.1.1.1.1.1.1
end
namespace Np
def cN(z:Zone)(n:List UInt8):Bool:=z.sets.any λx=>decide (x.set.type=2)&&!(x.set.name == z.apex)&&x.set.name == n
theorem IY{z:Zone}{n:List UInt8} : cN z n=true↔∃ x∈z.sets,x.set.type=2/\x.set.name≠z.apex/\x.set.name=n:=by
 unfold cN;rw[List.any_eq_true];constructor
 ·rintro⟨x,hx,h⟩;simp only[Bool.and_eq_true,Qa,Bool.not_eq_true',beq_eq_false_iff_ne,beq_iff_eq] at h;exact⟨x,hx,h.1.1,h.1.2,h.2⟩
 ·rintro⟨x,hx,h1,h2,h3⟩;refine⟨x,hx,?_⟩;rw[h3] at h2 |-;simp[h1,h2]
def om(C:List UInt8->Bool):List UInt8->List Signed->List (List UInt8)
 | _,[]=>[]
 | cut,x::r=>dC C cut x.set.name::om C (dC C cut x.set.name) r
def dL(z:Zone):List (List UInt8):=om (cN z) [] z.sets
theorem OG(C:List UInt8->Bool):∀ (cut:List UInt8) (l:List Signed),(om C cut l).length=l.length
 | _,[]=>rfl
 | cut,x::r=>by rw[om,List.length_cons,OG,List.length_cons]
theorem tE(z:Zone):(dL z).length=z.sets.length:=OG _ _ _
structure InOrder(z:Zone):Prop where
 order:(z.sets.map (·.set)).Pairwise λa b=>gE a b<0
 name:∀ x∈z.sets,x.set.name≠[]
 type:∀ x∈z.sets,x.set.type<=8
theorem OR{a b:DSet}(h:gE a b<0):aL a.name b.name<=0:=by
 rw[Ei] at h;split at h
 ·omega
 ·rename_i h0;have:=Decidable.not_not.1 h0;omega
theorem OS{a b:DSet}(h:gE a b<0)(he:a.name=b.name):a.type<b.type:=by
 rw[Ei,he,Bo,Qc (by simp)] at h;unfold cL at h;split at h
 ·assumption
 ·split at h<;>omega
theorem InOrder.names{z:Zone}(h:InOrder z){i j:Nat}(de:i<j)(hj:j<z.sets.length):aL (z.sets[i]'(by omega)).set.name (z.sets[j]).set.name<=0:=by
 have:=List.pairwise_iff_getElem.1 h.order i j (by simp;omega) (by simpa using hj) de
 rw[List.getElem_map,List.getElem_map] at this;exact OR this
theorem InOrder.types{z:Zone}(h:InOrder z){i j:Nat}(de:i<j)(hj:j<z.sets.length)(he:(z.sets[i]'(by omega)).set.name=(z.sets[j]).set.name):(z.sets[i]'(by omega)).set.type<(z.sets[j]).set.type:=by
 have:=List.pairwise_iff_getElem.1 h.order i j (by simp;omega) (by simpa using hj) de
 rw[List.getElem_map,List.getElem_map] at this;exact OS this he
theorem aRY{a b c:List UInt8}(h1:aL a b<=0)(h2:aL b c<=0)(he:a=c):b=a:=by
 subst he;by_cases h:aL a b<0
 ·have:=eY.anti _ _ h;omega
 ·exact (eY.zero _ _ (by omega)).symm
theorem Bp{z:Zone}(h:InOrder z):∀ c,cN z c=true->c≠[]:=λc hc=>by
 obtain⟨x,hx,_,_,rfl⟩:=IY.1 hc;exact h.name x hx
theorem O1{z:Zone}(h:InOrder z){c:List UInt8}(hc:cN z c=true){i:Nat}(hi:i<z.sets.length)(ab:aL c (z.sets[i]).set.name<0):∃ j,∃ hj:j<i,(z.sets[j]'(by omega)).set.name=c:=by
 obtain⟨x,hx,_,_,rfl⟩:=IY.1 hc;obtain⟨j,hj,rfl⟩:=nQ.1 hx;refine⟨j,?_,rfl⟩;refine Nat.lt_of_not_le λde=>?_;rcases Nat.lt_or_eq_of_le de with hl | rfl
 ·have h1:=h.names hl hj;have h2:=eY.anti _ _ ab;omega
 ·rw[Bo] at ab;omega
theorem OH{z:Zone}(h:InOrder z):∀ (l:List Signed) (i:Nat) (cut:List UInt8),z.sets.drop i=l->i<=z.sets.length->(i=0/\cut = []\/∃ hi:i - 1<z.sets.length,0<i/\ja (cN z) (z.sets[i - 1]).set.name cut)->∀ (k:Nat) (x:Signed) (b:List UInt8),l[k]?=some x->(om (cN z) cut l)[k]?=some b->ja (cN z) x.set.name b
 | [],_,_,_,_,_,k,x,b,hx,_=>by simp at hx
 | y::l,i,cut,hd,hi,hc,k,x,b,hx,hb=>by
   have dw:i<z.sets.length:=by
    have:=Qd List.length hd
    simp at this;omega
   have hy:z.sets[i]=y:=by
    have:=List.getElem?_drop (xs:=z.sets) (i:=i) (j:=0)
    rw[hd,Nat.add_zero,aQ dw] at this;simpa using this.symm
   have hd':z.sets.drop (i+1)=l:=by
    have:=Qd (List.drop 1) hd
    rw[List.drop_drop] at this;simpa using this
   have Rz:ja (cN z) y.set.name (dC (cN z) cut y.set.name):=by
    rcases hc with ⟨rfl,rfl⟩ | ⟨h1,h0,hc⟩
    ·refine biQ (Bp h) (λc tS ab=>?_);rw[<-hy] at ab;obtain⟨j,hj,_⟩:=O1 h tS dw ab;omega
    ·refine biZ (Bp h) hc ?_ (λc tS ab=>?_)
     ·rw[<-hy];exact h.names (by omega) dw
     ·rw[<-hy] at ab;obtain⟨j,hj,hjc⟩:=O1 h tS dw ab;rw[<-hjc];rcases Nat.lt_or_eq_of_le (show j<=i - 1 by omega) with hl | he
      ·exact h.names hl h1
      ·subst he;rw[Bo];exact Int.le_refl 0
   cases k with
   | zero=>
    simp only[om,List.getElem?_cons_zero,Option.some.injEq] at hx hb;rw[<-hx,<-hb];exact Rz
   | succ k=>
    simp only[om,List.getElem?_cons_succ] at hx hb;exact OH h l (i+1) _ hd' dw (.inr ⟨by simpa using dw,by omega,by simpa [hy] using Rz⟩) k x b hx hb
theorem YB{z:Zone}(h:InOrder z){i:Nat}{x:Signed}{b:List UInt8}(hx:z.sets[i]?=some x)(hb:(dL z)[i]?=some b):ja (cN z) x.set.name b:=
 OH h z.sets 0 [] rfl (jQ _) (.inl ⟨rfl,rfl⟩) i x b hx hb
theorem YC{z:Zone}(h:InOrder z){B:List (List UInt8)}(hl:B.length=z.sets.length)(hB:∀ (i:Nat) (x:Signed) (b:List UInt8),z.sets[i]?=some x->B[i]?=some b->ja (cN z) x.set.name b):B=dL z:=by
 refine List.ext_getElem (hl.trans (tE z).symm) λi h1 h2=>?_;have hi:i<z.sets.length:=by omega
 exact ja.unique (Bp h) (hB i _ _ (aQ hi) (aQ h1)) (YB h (aQ hi) (aQ h2))
def je(t:Int)(at':Bool):Bool:=if t=3\/t=6 then !at' else if t=4\/t=7 then at' else true
structure SigOk(apex:List UInt8)(l:List Sig)(i:Nat)(g:Sig):Prop where
 zone:g.zone=apex
 key:1<=g.key/\g.key<=1000000
 alg:1<=g.alg/\g.alg<=3
 win:0<=g.frm/\g.frm<=g.til/\g.til<=20000000
 same:∀ a,l[0]?=some a->g.frm=a.frm/\g.til=a.til
 up:∀ p,l[i - 1]?=some p->0<i->p.key<g.key
def go(apex:List UInt8)(l:List Sig):Prop:=l.length<=6/\∀ i g,l[i]?=some g->SigOk apex l i g
def kH(x:DSet)(b:List UInt8):Prop:=(b = []->x.type≠6)/\(b≠[]->b=x.name->x.type=2\/x.type=6\/x.type=8\/x.type=1)/\(b≠[]->b≠x.name->x.type=1)
structure VZone(z:Zone):Prop where
 right:eK z=true
 few:z.sets.length<=20000
 start:∃ x∈z.sets,x.set.name=z.apex/\x.set.type=4
 server:∃ x∈z.sets,x.set.name=z.apex/\x.set.type=2
 fits:∀ x∈z.sets,je x.set.type (x.set.name == z.apex)=true
 aliasBefore:∀ i (hi:i+1<z.sets.length),(z.sets[i+1]).set.type=3->(z.sets[i]).set.name≠(z.sets[i+1]).set.name
 aliasBehind:∀ i (hi:i+1<z.sets.length),(z.sets[i]).set.type=3->(z.sets[i+1]).set.name=(z.sets[i]).set.name->(z.sets[i+1]).set.type=8
 cuts:∀ (i:Nat) (x:Signed) (b:List UInt8),z.sets[i]?=some x->(dL z)[i]?=some b->kH x.set b
 sigs:∀ (i:Nat) (x:Signed) (b:List UInt8),z.sets[i]?=some x->(dL z)[i]?=some b->b≠[]->x.set.type=2\/x.set.type=1->x.sigs = []
 form:∀ x∈z.sets,go z.apex x.sigs
theorem VZone.inOrder{z:Zone}(h:eK z=true):InOrder z:=by
 unfold eK at h;simp only[Bool.and_eq_true] at h;have ax:∀ (l:List Signed) (p:Option DSet),jG z.apex p l=true->(p.toList++l.map (·.set)).Pairwise (λa b=>gE a b<0)/\∀ x∈l,dT x.set=true:=by
  intro l
  induction l with
  | nil=>intro p _;cases p<;>simp
  | cons x l ih=>
   intro p h;unfold jG at h;rw[Bool.and_eq_true,Bool.and_eq_true,Bool.and_eq_true,Bool.and_eq_true] at h;obtain⟨i1,i2⟩:=ih (some x.set) h.2;have i1:(x.set::l.map (·.set)).Pairwise (λa b=>gE a b<0):=i1;refine⟨?_,λy hy=>?_⟩
   ·cases p with
    | none=>exact i1
    | some q=>
     have h2:gE q x.set<0:=by simpa using h.1.2
     refine List.pairwise_cons.2 ⟨λy hy=>?_,i1⟩;rcases List.mem_cons.1 hy with e | hy
     ·rw[e];exact h2
     ·have h3:=(List.pairwise_cons.1 i1).1 y hy;rw[IV] at h2 h3 |-;exact xD.trans _ _ _ h2 h3
   ·rcases List.mem_cons.1 hy with e | hy
    ·subst e;exact h.1.1.2
    ·exact i2 y hy
 obtain⟨h1,h2⟩:=ax _ none h.2;refine⟨h1,λx hx=>?_,λx hx=>?_⟩
 ·have hv:=(zP (h2 x hx)).1;intro e;rw[e] at hv;exact absurd hv (by decide)
 ·exact (zP (h2 x hx)).2.2.1
def nO(l:List Signed):List UInt8:=l.foldl (λa x=>if x.set.type=3 then x.set.name else a) []
structure RZoneOk(z:Zone):Prop where
 right:eK z=true
 few:z.sets.length<=20000
 start:∃ x∈z.sets,x.set.name=z.apex/\x.set.type=4
 server:∃ x∈z.sets,x.set.name=z.apex/\x.set.type=2
 fits:∀ x∈z.sets,je x.set.type (x.set.name == z.apex)=true
 three:∀ i (hi:i+1<z.sets.length),(z.sets[i]).set.name=(z.sets[i+1]).set.name->(z.sets[i+1]).set.type≠3/\(nO (z.sets.take (i+2))=(z.sets[i+1]).set.name->(z.sets[i+1]).set.type=8)
 cuts:∀ (i:Nat) (x:Signed) (b:List UInt8),z.sets[i]?=some x->(dL z)[i]?=some b->kH x.set b
 sigs:∀ (i:Nat) (x:Signed) (b:List UInt8),z.sets[i]?=some x->(dL z)[i]?=some b->b≠[]->x.set.type=2\/x.set.type=1->x.sigs = []
 form:∀ x∈z.sets,go z.apex x.sigs
theorem K2(l:List Signed)(x:Signed):nO (l ++ [x])=if x.set.type=3 then x.set.name else nO l:=by simp[nO]
theorem So:∀ (l:List Signed) (a:List UInt8),l.foldl (λa x=>if x.set.type=3 then x.set.name else a) a=a\/∃ (j:Nat) (hj:j<l.length),(l[j]).set.type=3/\(l[j]).set.name=l.foldl (λa x=>if x.set.type=3 then x.set.name else a) a
 | [],_=>.inl rfl
 | x::l,a=>by
   rw[List.foldl_cons];rcases So l (if x.set.type=3 then x.set.name else a) with h | ⟨j,hj,h1,h2⟩
   ·rw[h];split
    ·rename_i ht;exact .inr ⟨0,by simp,ht,rfl⟩
    ·exact .inl rfl
   ·exact .inr ⟨j+1,by simpa using hj,h1,h2⟩
theorem aNQ(l:List Signed):nO l = []\/∃ (j:Nat) (hj:j<l.length),(l[j]).set.type=3/\(l[j]).set.name=nO l:=So l []
theorem bpJ(z:Zone):VZone z↔RZoneOk z:=by
 constructor
 ·intro h;have ho:=VZone.inOrder h.right;refine⟨h.right,h.few,h.start,h.server,h.fits,λi hi he=>?_,h.cuts,h.sigs,h.form⟩;have h3:(z.sets[i+1]).set.type≠3:=λht=>h.aliasBefore i hi ht he;refine⟨h3,λhl=>?_⟩;rcases aNQ (z.sets.take (i+2)) with e | ⟨j,hj,j1,j2⟩
  ·rw[e] at hl;exact absurd hl.symm (ho.name _ (List.getElem_mem hi))
  ·rw[List.getElem_take] at j1 j2;rw[hl] at j2;have pN:j<i+2:=by have:=hj;rw[List.length_take] at this;omega
   have qR:j≠i+1:=λe=>by subst e;exact h3 j1
   have nw:j+1<z.sets.length:=by omega
   have ub:(z.sets[j+1]).set.name=(z.sets[j]).set.name:=by
    rcases Nat.lt_or_eq_of_le (show j+1<=i+1 by omega) with hl | B8
    ·exact aRY (ho.names (by omega) nw) (ho.names hl hi) j2
    ·have:j=i:=by omega
     subst this;exact he.symm
   have h8:=h.aliasBehind j nw j1 ub;rcases Nat.lt_or_eq_of_le (show j+1<=i+1 by omega) with hl | B8
   ·have h9:=ho.types hl hi (ub.trans j2);have ou:=ho.type _ (List.getElem_mem hi);omega
   ·have:j=i:=by omega
    subst this;exact h8
 ·intro h;have ho:=VZone.inOrder h.right;refine⟨h.right,h.few,h.start,h.server,h.fits,λi hi ht he=>?_,λi hi ht he=>?_,h.cuts,h.sigs,h.form⟩
  ·exact (h.three i hi he).1 ht
  ·obtain⟨h1,h2⟩:=h.three i hi he.symm;refine h2 ?_;have e1:z.sets.take (i+2)=z.sets.take (i+1) ++ [z.sets[i+1]]:=fQ hi;have e2:z.sets.take (i+1)=z.sets.take i ++ [z.sets[i]]:=fQ (by omega);rw[e1,K2,Qc h1,e2,K2,Qb ht];exact he.symm
def inS(l:List Span)(t:Int):Prop:=∃ s∈l,s.frm<=t/\t<s.til
structure ApartS(l:List Span):Prop where
 full:∀ s∈l,s.frm<s.til
 apart:l.Pairwise λa b=>a.til<b.frm
theorem sS(t:Int):¬ inS [] t:=λ⟨_,h,_⟩=>by cases h
theorem mH{a:Span}{l:List Span}{t:Int} : inS (a::l) t↔(a.frm<=t/\t<a.til)\/inS l t:=by
 constructor
 ·rintro⟨s,hs,h⟩;rcases List.mem_cons.1 hs with e | hs
  ·subst e;exact .inl h
  ·exact .inr ⟨s,hs,h⟩
 ·rintro (h | ⟨s,hs,h⟩)
  ·exact⟨a,by simp,h⟩
  ·exact⟨s,mQ _ hs,h⟩
theorem KZ{a b:List Span}{t:Int} : inS (a++b) t↔inS a t\/inS b t:=by
 constructor
 ·rintro⟨s,hs,h⟩;rcases List.mem_append.1 hs with hs | hs
  ·exact .inl ⟨s,hs,h⟩
  ·exact .inr ⟨s,hs,h⟩
 ·rintro (⟨s,hs,h⟩ | ⟨s,hs,h⟩)
  ·exact⟨s,List.mem_append_left _ hs,h⟩
  ·exact⟨s,List.mem_append_right _ hs,h⟩
theorem ApartS.tail{a:Span}{l:List Span}(h:ApartS (a::l)):ApartS l:=⟨λs hs=>h.full s (mQ _ hs),(List.pairwise_cons.1 h.apart).2⟩
theorem ApartS.nil:ApartS []:=⟨λ_ h=>(by cases h),List.Pairwise.nil⟩
theorem ApartS.above{a:Span}{l:List Span}(h:ApartS (a::l)){t:Int}(ht:inS l t):a.til<t:=by
 obtain⟨s,hs,h1,_⟩:=ht
 have:=(List.pairwise_cons.1 h.apart).1 s hs
 omega
theorem ApartS.from{a:Span}{l:List Span}(h:ApartS (a::l)){t:Int}(ht:inS (a::l) t):a.frm<=t:=by
 rcases mH.1 ht with h1 | h1
 ·exact h1.1
 ·have h2:=h.above h1;have h3:=h.full a (by simp);omega
theorem Ou:∀ (l m:List Span),ApartS l->ApartS m->(∀ t,inS l t↔inS m t)->l=m
 | [],[],_,_,_=>rfl
 | [],b::m,_,hm,h=>absurd ((h b.frm).2 ⟨b,by simp,Int.le_refl _,hm.full b (by simp)⟩) (sS _)
 | a::l,[],hl,_,h=>absurd ((h a.frm).1 ⟨a,by simp,Int.le_refl _,hl.full a (by simp)⟩) (sS _)
 | a::l,b::m,hl,hm,h=>by
   have fa:=hl.full a (by simp);have fb:=hm.full b (by simp);have e1:a.frm=b.frm:=by
    have h1:=hm.from ((h a.frm).1 ⟨a,by simp,Int.le_refl _,fa⟩);have h2:=hl.from ((h b.frm).2 ⟨b,by simp,Int.le_refl _,fb⟩);omega
   have e2:a.til=b.til:=by
    rcases Int.lt_trichotomy a.til b.til with ab | he | ab
    ·exfalso
     have:=(h a.til).2 (mH.2 (.inl ⟨by omega,ab⟩))
     rcases mH.1 this with h1 | h1
     ·omega
     ·have:=hl.above h1;omega
    ·exact he
    ·exfalso
     have:=(h b.til).1 (mH.2 (.inl ⟨by omega,ab⟩))
     rcases mH.1 this with h1 | h1
     ·omega
     ·have:=hm.above h1;omega
   have e:a=b:=by obtain⟨_,_⟩:=a;obtain⟨_,_⟩:=b;simp only at e1 e2;rw[e1,e2]
   subst e;rw[Ou l m hl.tail hm.tail (λt=>by
    constructor
    ·intro ht;have h1:=hl.above ht;rcases mH.1 ((h t).1 (mH.2 (.inr ht))) with h2 | h2
     ·omega
     ·exact h2
    ·intro ht;have h1:=hm.above ht;rcases mH.1 ((h t).2 (mH.2 (.inr ht))) with h2 | h2
     ·omega
     ·exact h2)]
def ga(out:List Span)(s:Span):List Span:=
 match out.getLast? with
 | none=>[s]
 | some p=>if s.frm<=p.til then out.dropLast ++ [⟨p.frm,max p.til s.til⟩] else out ++ [s]
theorem T6(s:Span):ga [] s = [s]:=rfl
theorem LI(o:List Span)(p s:Span):ga (o ++ [p]) s=if s.frm<=p.til then o ++ [⟨p.frm,max p.til s.til⟩] else o ++ [p] ++ [s]:=by simp[ga]
theorem bmQ{out:List Span}{s:Span}(ho:ApartS out)(hs:s.frm<s.til)(hf:∀ p∈out,p.frm<=s.frm):ApartS (ga out s)/\(∀ t,inS (ga out s) t↔inS out t\/(s.frm<=t/\t<s.til))/\∀ p∈ga out s,p.frm<=s.frm:=by
 rcases List.eq_nil_or_concat out with rfl | ⟨o,p,rfl⟩
 ·rw[T6];refine⟨⟨λx hx=>?_,by simp⟩,λt=>?_,λx hx=>?_⟩
  ·rw[List.mem_singleton] at hx;subst hx;exact hs
  ·rw[mH];constructor
   ·rintro (h | h);exact .inr h;exact absurd h (sS t)
   ·rintro (h | h);exact absurd h (sS t);exact .inl h
  ·rw[List.mem_singleton] at hx;subst hx;exact Int.le_refl _
 ·rw[List.concat_eq_append] at ho hf |-;rw[LI];have hp:=hf p (by simp);have zh:=ho.full p (by simp);obtain⟨a1,a2,a3⟩:=List.pairwise_append.1 ho.apart;split
  ·rename_i fF;have Cg:=Int.le_max_left p.til s.til;have jO:=Int.le_max_right p.til s.til;have hm3:max p.til s.til=p.til\/max p.til s.til=s.til:=by omega
   refine⟨⟨λx hx=>?_,?_⟩,λt=>?_,λx hx=>?_⟩
   ·rcases List.mem_append.1 hx with hx | hx
    ·exact ho.full x (List.mem_append_left _ hx)
    ·rw[List.mem_singleton] at hx;subst hx;dsimp only;omega
   ·refine List.pairwise_append.2 ⟨a1,by simp,λx hx y hy=>?_⟩;rw[List.mem_singleton] at hy;subst hy;exact a3 x hx p (by simp)
   ·rw[KZ,KZ,mH,mH];dsimp only;constructor
    ·rintro (h | h | h)
     ·exact .inl (.inl h)
     ·rcases Int.lt_or_le t p.til with h2 | h2
      ·exact .inl (.inr (.inl ⟨h.1,h2⟩))
      ·exact .inr ⟨by omega,by omega⟩
     ·exact absurd h (sS t)
    ·rintro ((h | h | h) | h)
     ·exact .inl h
     ·exact .inr (.inl ⟨h.1,by omega⟩)
     ·exact absurd h (sS t)
     ·exact .inr (.inl ⟨by omega,by omega⟩)
   ·rcases List.mem_append.1 hx with hx | hx
    ·exact hf x (List.mem_append_left _ hx)
    ·rw[List.mem_singleton] at hx;subst hx;exact hp
  ·rename_i fF;refine⟨⟨λx hx=>?_,?_⟩,λt=>?_,λx hx=>?_⟩
   ·rcases List.mem_append.1 hx with hx | hx
    ·exact ho.full x hx
    ·rw[List.mem_singleton] at hx;subst hx;exact hs
   ·refine List.pairwise_append.2 ⟨ho.apart,by simp,λx hx y hy=>?_⟩;rw[List.mem_singleton] at hy;subst hy;rcases List.mem_append.1 hx with hx | hx
    ·have:=a3 x hx p (by simp);omega
    ·rw[List.mem_singleton] at hx;subst hx;omega
   ·rw[KZ,mH];constructor
    ·rintro (h | h | h)
     ·exact .inl h
     ·exact .inr h
     ·exact absurd h (sS t)
    ·rintro (h | h)
     ·exact .inl h
     ·exact .inr (.inl h)
   ·rcases List.mem_append.1 hx with hx | hx
    ·exact hf x hx
    ·rw[List.mem_singleton] at hx;subst hx;exact Int.le_refl _
theorem T5:∀ (l out:List Span),ApartS out->(∀ s∈l,s.frm<s.til)->l.Pairwise (λa b=>a.frm<=b.frm)->(∀ p∈out,∀ s∈l,p.frm<=s.frm)->ApartS (l.foldl ga out)/\∀ t,inS (l.foldl ga out) t↔inS out t\/inS l t
 | [],out,ho,_,_,_=>⟨ho,λt=>⟨.inl,λh=>h.elim id (λh=>absurd h (sS t))⟩⟩
 | s::l,out,ho,hf,hs,hp=>by
   obtain⟨h1,h2,h3⟩:=bmQ ho (hf s (by simp)) (λp nG=>hp p nG s (by simp));obtain⟨q1,q2⟩:=List.pairwise_cons.1 hs;obtain⟨h4,h5⟩:=T5 l (ga out s) h1 (λx hx=>hf x (mQ _ hx)) q2 (λp nG x hx=>by
    have:=h3 p nG
    have:=q1 x hx
    omega)
   refine⟨h4,λt=>?_⟩;rw[List.foldl_cons,h5,h2,mH,or_assoc]
end Np
namespace Np
variable {α:Type} [DecidableEq α]
def k9(o:List α)(x:α):List α:=if x∈o then o else o ++ [x]
def dH(l:List α):List α:=l.foldl k9 []
theorem aPX{o:List α}{x y:α} : y∈k9 o x↔y∈o\/y=x:=by
 unfold k9;split
 ·rename_i h;constructor
  ·exact .inl
  ·rintro (h1 | rfl);exact h1;exact h
 ·simp
theorem aTJ{o:List α}{x:α}(h:o.Nodup):(k9 o x).Nodup:=by
 unfold k9;split
 ·exact h
 ·rename_i hx;exact List.nodup_append.2 ⟨h,by simp,λa ha b hb=>by rw[List.mem_singleton] at hb;rintro rfl;exact hx (hb ▸ ha)⟩
theorem Sv:∀ (l o:List α) (y:α),y∈l.foldl k9 o↔y∈o\/y∈l
 | [],o,y=>by simp
 | x::l,o,y=>by
   rw[List.foldl_cons,Sv l,aPX,List.mem_cons,or_assoc]
theorem SB:∀ (l o:List α),o.Nodup->(l.foldl k9 o).Nodup
 | [],_,h=>h
 | _::l,_,h=>SB l _ (aTJ h)
theorem FD{l:List α}{y:α} : y∈dH l↔y∈l:=by unfold dH;rw[Sv];simp
theorem CY(l:List α):(dH l).Nodup:=SB l [] List.nodup_nil
theorem LH(l:List α)(x:α):dH (l ++ [x])=k9 (dH l) x:=by simp[dH]
theorem Oo{o:List α}{x:α}(h:x∈o):k9 o x=o:=Qb h
theorem Db(l:List α):(dH l).length<=l.length:=by
 have:∀ (l o:List α),(l.foldl k9 o).length<=o.length+l.length:=by
  intro l
  induction l with
  | nil=>intro o;simp
  | cons x l ih=>
   intro o;have h:=ih (k9 o x);have h2:(k9 o x).length<=o.length+1:=by unfold k9;split<;>simp
   rw[List.foldl_cons,List.length_cons];omega
 have h:=this l [];simpa [dH] using h
omit [DecidableEq α] in
theorem Ly{c:α->α->Int}(hc:TO c):∀ (l m:List α),l.Pairwise (λa b=>c a b<0)->m.Pairwise (λa b=>c a b<0)->(∀ x,x∈l↔x∈m)->l=m
 | [],[],_,_,_=>rfl
 | [],b::m,_,_,h=>by have:=(h b).2 (by simp);cases this
 | a::l,[],_,_,h=>by have:=(h a).1 (by simp);cases this
 | a::l,b::m,hl,hm,h=>by
   obtain⟨l1,l2⟩:=List.pairwise_cons.1 hl;obtain⟨m1,m2⟩:=List.pairwise_cons.1 hm;have e:a=b:=by
    rcases List.mem_cons.1 ((h a).1 (by simp)) with e | h1
    ·exact e
    ·rcases List.mem_cons.1 ((h b).2 (by simp)) with e | h2
     ·exact e.symm
     ·have:=hc.anti _ _ (l1 b h2)
      have:=m1 a h1
      omega
   subst e;rw[Ly hc l m l2 m2 (λx=>by
    constructor
    ·intro hx;rcases List.mem_cons.1 ((h x).1 (mQ _ hx)) with e | h1
     ·subst e;have:=l1 x hx;rw[hc.self] at this;omega
     ·exact h1
    ·intro hx;rcases List.mem_cons.1 ((h x).2 (mQ _ hx)) with e | h1
     ·subst e;have:=m1 x hx;rw[hc.self] at this;omega
     ·exact h1)]
def ux(l:List (List UInt8)):List (List UInt8):=l.mergeSort λa b=>!decide (aL b a<0)
theorem Lp(l:List (List UInt8)):(ux l).Perm l:=List.mergeSort_perm _ _
theorem Lq{l:List (List UInt8)}(h:l.Nodup):(ux l).Pairwise λa b=>aL a b<0:=by
 have hs:(ux l).Pairwise λa b=>(!decide (aL b a<0))=true:=List.pairwise_mergeSort (le:=λa b=>!decide (aL b a<0)) (λx y z=>aOJ eY x y z) (λx y=>aOZ eY x y) l;have hn:(ux l).Nodup:=(Lp l).nodup_iff.2 h;refine (hs.and hn).imp λ{a b} ⟨h1,h2⟩=>?_;have h3:¬ aL b a<0:=by simpa using h1
 refine Int.lt_of_not_ge λh4=>?_;by_cases h5:0<aL a b
 ·exact h3 (eY.anti' _ _ h5)
 ·exact h2 (eY.zero _ _ (by omega))
def ep:List (List UInt8)->List UInt8->List (List UInt8)
 | [],a=>[a]
 | x::l,a=>if aL x a<0 then x::ep l a else if x=a then x::l else a::x::l
theorem Tb:∀ (l:List (List UInt8)) (a:List UInt8),l.Pairwise (λa b=>aL a b<0)->(ep l a).Pairwise (λa b=>aL a b<0)/\∀ y,y∈ep l a↔y∈l\/y=a
 | [],a,_=>⟨by simp[ep],λy=>by simp[ep]⟩
 | x::l,a,h=>by
   obtain⟨h1,h2⟩:=List.pairwise_cons.1 h;rw[ep];split
   ·rename_i ab;obtain⟨i1,i2⟩:=Tb l a h2;refine⟨List.pairwise_cons.2 ⟨λy hy=>?_,i1⟩,λy=>?_⟩
    ·rcases (i2 y).1 hy with hy | rfl
     ·exact h1 y hy
     ·exact ab
    ·rw[List.mem_cons,i2,List.mem_cons,or_assoc]
   ·rename_i ab;split
    ·rename_i he;subst he;refine⟨h,λy=>?_⟩;constructor
     ·exact .inl
     ·rintro (hy | rfl);exact hy;simp
    ·rename_i hne;have P0:aL a x<0:=by
      by_cases h0:0<aL x a
      ·exact eY.anti' _ _ h0
      ·exact absurd (eY.zero _ _ (by omega)) hne
     refine⟨List.pairwise_cons.2 ⟨λy hy=>?_,h⟩,λy=>?_⟩
     ·rcases List.mem_cons.1 hy with e | hy
      ·subst e;exact P0
      ·exact eY.trans _ _ _ P0 (h1 y hy)
     ·rw[List.mem_cons,Or.comm]
end Np
section
open Go.RowKit
def fi(_:World)(_:Nat)(e:List Value)(g:Np.Sig):Prop:=∃ s:ByteArray,s.data.toList=g.zone/\s.size<=140737488355328/\e = [.string s,.int .i64 g.key,.int .i64 g.alg,.int .i64 g.frm,.int .i64 g.til,.int .u64 g.sum]
theorem eL:dl fi:=λ_ _ _ _ _ h _=>h
theorem fJ:dy fi:=λ_ _ _ _ _ h _=>h
def br(W:World)(B:Nat)(e:List Value)(x:Np.Signed):Prop:=∃ (s:ByteArray) (v u:Value),s.data.toList=x.set.name/\s.size<=140737488355328/\SlR ci 3 W B v x.set.data/\SlR fi 6 W B u x.sigs/\e = [.string s,.int .i64 x.set.type,.int .i64 x.set.life,v,u]
theorem aP:dl br:=λ_ _ _ _ _ ⟨s,v,u,h1,h2,h3,h4,h5⟩ hb=>⟨s,v,u,h1,h2,h3.keep cJ hb,h4.keep eL hb,h5⟩
theorem bK:dy br:=λ_ _ _ _ _ ⟨s,v,u,h1,h2,h3,h4,h5⟩ hb=>⟨s,v,u,h1,h2,h3.more di hb,h4.more fJ hb,h5⟩
def XZ(W:World)(B:Nat)(e:List Value)(z:Np.Zone):Prop:=∃ (s:ByteArray) (v:Value),s.data.toList=z.apex/\s.size<=140737488355328/\SlR br 5 W B v z.sets/\e = [.string s,v]
theorem SlR.later{α:Type}{R:aiQ α}{sz:Nat}{w w':World}{v:Value}{xs:List α}(hk:dl R)(hm:dy R)(h:SlR R sz w w.heap.size v xs)(hb:Below w.heap.size w w'):SlR R sz w' w'.heap.size v xs:=(h.keep hk hb).more hm hb.size
theorem El{w:World}{B:Nat}{v:Value}{xs:List Np.Datum}(h:SlR ci 3 w B v xs){k:Nat}{x:Np.Datum}(hx:xs[k]?=some x):∃ (b o c:Nat) (s:ByteArray),v = .slice (some ⟨b,o,none⟩) xs.length c/\b<B/\xs.length<=c/\s.data.toList=x.text/\s.size<=140737488355328/\
 w.cell? ⟨b,o+k * 3,none⟩=some (.string s)/\w.cell? ⟨b,o+k * 3+1,none⟩=some (.int .i64 x.n)/\w.cell? ⟨b,o+k * 3+2,none⟩=some (.int .i64 x.m):=by
 obtain⟨A,c,rfl,hc,_,he⟩:=h;obtain⟨b,o,e,rfl,hb,_,hce,s,h1,h2,rfl⟩:=he k x hx;exact⟨b,o,c,s,rfl,hb,hc,h1,h2,by have:=hce 0 _ rfl;simpa using this,hce 1 _ rfl,hce 2 _ rfl⟩
theorem dB{w:World}{B:Nat}{v:Value}{xs:List Np.Signed}(h:SlR br 5 w B v xs){k:Nat}{x:Np.Signed}(hx:xs[k]?=some x):∃ (b o c:Nat) (s:ByteArray) (dv sv:Value),v = .slice (some ⟨b,o,none⟩) xs.length c/\b<B/\xs.length<=c/\s.data.toList=x.set.name/\s.size<=140737488355328/\SlR ci 3 w B dv x.set.data/\SlR fi 6 w B sv x.sigs/\
 w.cell? ⟨b,o+k * 5,none⟩=some (.string s)/\w.cell? ⟨b,o+k * 5+1,none⟩=some (.int .i64 x.set.type)/\w.cell? ⟨b,o+k * 5+2,none⟩=some (.int .i64 x.set.life)/\w.cell? ⟨b,o+k * 5+3,none⟩=some dv/\w.cell? ⟨b,o+k * 5+4,none⟩=some sv:=by
 obtain⟨A,c,rfl,hc,_,he⟩:=h;obtain⟨b,o,e,rfl,hb,_,hce,s,dv,sv,h1,h2,h3,h4,rfl⟩:=he k x hx;exact⟨b,o,c,s,dv,sv,rfl,hb,hc,h1,h2,h3,h4,by have:=hce 0 _ rfl;simpa using this,hce 1 _ rfl,hce 2 _ rfl,hce 3 _ rfl,hce 4 _ rfl⟩
theorem ak{α:Type}{R:aiQ α}{sz:Nat}{w:World}{B:Nat}{v:Value}{xs:List α}(h:SlR R sz w B v xs):∃ A c,v = .slice A xs.length c/\xs.length<=c/\xs.length<=140737488355328:=by
 obtain⟨A,c,h1,h2,h3,_⟩:=h;exact⟨A,c,h1,h2,h3⟩
end
namespace Np
structure Host where
 name:List UInt8
 addr:Int
 owner:Int
deriving DecidableEq
structure Copy where
 host:Int
 frm:Int
 til:Int
 zone:Zone
deriving DecidableEq
structure Placed where
 host:Int
 zone:Zone
deriving DecidableEq
structure Held where
 zone:List UInt8
 signed:Signed
 fresh:List Span
 spans:List Span
deriving DecidableEq
structure Hist where
 hosts:List Host
 copies:List Copy
 anchor:DSet
 hints:List Int
 drift:Int
 stop:Int
structure WorldP where
 hosts:List Host
 zones:List Placed
 anchor:DSet
 hints:List Int
noncomputable def yes(P:Prop):Bool:=@decide P (Classical.propDecidable P)
theorem bV{P:Prop}(h:P):yes P=true:=by unfold yes;exact @uQ _ (Classical.propDecidable P) h
theorem aR{P:Prop}(h:¬ P):yes P=false:=by unfold yes;exact @tQ _ (Classical.propDecidable P) h
theorem eZ{P:Prop} : yes P=true↔P:=by unfold yes;exact @decide_eq_true_iff _ (Classical.propDecidable P)
theorem uE{P Q:Prop}(h:P↔Q):yes P=yes Q:=by rw[Bool.eq_iff_iff,eZ,eZ];exact h
structure HostOk(h:Host):Prop where
 name:al h.name=true
 wild:eH h.name=false
 addr:1<=h.addr/\h.addr<=1000000
 owner:0<=h.owner/\h.owner<=31
structure VHosts(l:List Host):Prop where
 few:l.length<=64
 each:∀ h∈l,HostOk h
 addrs:(l.map (·.addr)).Nodup
structure VRoot(a:DSet)(hints:List Int):Prop where
 set:dT a=true
 type:a.type=6
 name:a.name = [46]
 few:1<=hints.length/\hints.length<=8
 each:∀ n∈hints,1<=n/\n<=1000000
structure CopyOk(h:Hist)(c:Copy):Prop where
 host:0<=c.host/\c.host<h.hosts.length
 times:0<=c.frm/\c.frm<c.til/\c.til<=h.stop
 zone:VZone c.zone
def iV(c d:Copy):Prop:=c.host=d.host/\c.zone.apex=d.zone.apex/\c.frm<d.til/\d.frm<c.til
structure VHist(h:Hist):Prop where
 stop:1<=h.stop/\h.stop<=10000000
 drift:0<=h.drift/\h.drift<=1000
 hosts:VHosts h.hosts
 root:VRoot h.anchor h.hints
 each:∀ c∈h.copies,CopyOk h c
 apart:h.copies.Pairwise λc d=>¬ iV c d
structure VWorld(w:WorldP):Prop where
 hosts:VHosts w.hosts
 root:VRoot w.anchor w.hints
 each:∀ p∈w.zones,(0<=p.host/\p.host<w.hosts.length)/\VZone p.zone
 apart:w.zones.Pairwise λp q=>¬ (p.host=q.host/\p.zone.apex=q.zone.apex)
def eI(l:List Span):List Span:=(l.mergeSort λa b=>decide (a.frm<=b.frm)).foldl ga []
theorem R0{l m:List Span}(h:l.Perm m)(t:Int):inS l t↔inS m t:=
 ⟨λ⟨s,hs,k⟩=>⟨s,h.mem_iff.1 hs,k⟩,λ⟨s,hs,k⟩=>⟨s,h.mem_iff.2 hs,k⟩⟩
theorem Pm{l:List Span}(hf:∀ s∈l,s.frm<s.til)(hs:l.Pairwise λa b=>a.frm<=b.frm):ApartS (l.foldl ga [])/\∀ t,inS (l.foldl ga []) t↔inS l t:=by
 obtain⟨h1,h2⟩:=T5 l [] ApartS.nil hf hs (λp hp=>by cases hp);exact⟨h1,λt=>(h2 t).trans ⟨λh=>h.elim (λh=>absurd h (sS t)) id,.inr⟩⟩
theorem TR(l:List Span):(l.mergeSort λa b=>decide (a.frm<=b.frm)).Perm l:=List.mergeSort_perm _ _
theorem bfK(l:List Span):(l.mergeSort λa b=>decide (a.frm<=b.frm)).Pairwise λa b=>a.frm<=b.frm:=by
 have:=List.pairwise_mergeSort (le:=λa b:Span=>decide (a.frm<=b.frm)) (λx y z h1 h2=>by simp at *;omega) (λx y=>by simp;omega) l
 exact this.imp λh=>by simpa using h
theorem FG{l:List Span}(hf:∀ s∈l,s.frm<s.til):ApartS (eI l)/\∀ t,inS (eI l) t↔inS l t:=by
 obtain⟨h1,h2⟩:=Pm (λs hs=>hf s ((TR l).mem_iff.1 hs)) (bfK l);exact⟨h1,λt=>(h2 t).trans (R0 (TR l) t)⟩
theorem K9{l m:List Span}(hf:∀ s∈l,s.frm<s.til)(hm:ApartS m)(ht:∀ t,inS m t↔inS l t):m=eI l:=by
 obtain⟨h1,h2⟩:=FG hf;exact Ou _ _ hm h1 λt=>(ht t).trans (h2 t).symm
theorem aTY{l m:List Span}(hf:∀ s∈l,s.frm<s.til)(hp:m.Perm l)(hs:m.Pairwise λa b=>a.frm<=b.frm):m.foldl ga []=eI l:=by
 obtain⟨h1,h2⟩:=Pm (λs hs=>hf s (hp.mem_iff.1 hs)) hs;exact K9 hf h1 λt=>(h2 t).trans (R0 hp t)
theorem aTX{l m:List Span}(hl:∀ s∈l,s.frm<s.til)(hm:∀ s∈m,s.frm<s.til)(h:∀ t,inS l t↔inS m t):eI l=eI m:=by
 obtain⟨h1,h2⟩:=FG hl;exact K9 hm h1 λt=>(h2 t).trans (h t)
def ia(c:Copy):Span:=⟨c.frm,c.til⟩
def tG(l:List Copy)(zone:List UInt8):List Copy:=l.filter λc=>c.zone.apex == zone
def p9(c:Copy):List (Span×Signed):=c.zone.sets.map λs=>(ia c,s)
def gx(l:List Copy)(zone:List UInt8):List (Span×Signed):=(tG l zone).flatMap p9
def f9(ps:List (Span×Signed))(s:Signed):List Span:=(ps.filter λp=>decide (p.2=s)).map (·.1)
def J2(f:List Span->List Span)(zone:List UInt8)(ps:List (Span×Signed)):List Held:=(dH (ps.map (·.2))).map λs=>⟨zone,s,f (f9 ps s),[]⟩
theorem Gh(ps:List (Span×Signed))(p:Span×Signed)(s:Signed):f9 (ps ++ [p]) s=if p.2=s then f9 ps s ++ [p.1] else f9 ps s:=by
 unfold f9;rw[List.filter_append];by_cases h:p.2=s
 ·simp[h]
 ·simp[h]
theorem bkY{ps:List (Span×Signed)}{s:Signed}(h:s∉ps.map (·.2)):f9 ps s = []:=by
 unfold f9;rw[List.filter_eq_nil_iff.2 (λp hp=>?_)];rfl;simp only[Qa];rintro rfl;exact h (List.mem_map.2 ⟨p,hp,rfl⟩)
def pub(l:List Copy)(zone:List UInt8):List Held:=J2 eI zone (gx l zone)
def apexes(l:List Copy):List (List UInt8):=ux (dH (l.map (·.zone.apex)))
def rj(l:List Copy)(t:Int):List Copy:=l.filter λc=>decide (c.frm<=t)&&decide (t<c.til)
def mf(c:Copy):Placed:=⟨c.host,c.zone⟩
def ta(h:Hist)(t:Int):WorldP:=⟨h.hosts,(rj h.copies t).map mf,h.anchor,h.hints⟩
def nT(l:List Copy)(zone:List UInt8)(k:Int):List Span:=eI ((l.filter λc=>decide (c.host=k)&&(c.zone.apex == zone)).map ia)
theorem CW{l:List Copy}{zone:List UInt8}{p:Span×Signed} : p∈gx l zone↔∃ c∈l,c.zone.apex=zone/\p.2∈c.zone.sets/\p.1=ia c:=by
 unfold gx tG p9;simp only[List.mem_flatMap,List.mem_filter,List.mem_map,beq_iff_eq];constructor
 ·rintro⟨c,⟨h1,h2⟩,s,hs,rfl⟩;exact⟨c,h1,h2,hs,rfl⟩
 ·rintro⟨c,h1,h2,h3,h4⟩;exact⟨c,⟨h1,h2⟩,p.2,h3,by rw[<-h4]⟩
theorem FC{ps:List (Span×Signed)}{s:Signed}{x:Span} : x∈f9 ps s↔(x,s)∈ps:=by
 unfold f9;simp only[List.mem_map,List.mem_filter,Qa];constructor
 ·rintro⟨p,⟨h1,rfl⟩,rfl⟩;exact h1
 ·intro h;exact⟨(x,s),⟨h,rfl⟩,rfl⟩
def ql(l:List Copy):Prop:=∀ c∈l,c.frm<c.til
theorem VHist.full{h:Hist}(v:VHist h):ql h.copies:=λc hc=>(v.each c hc).times.2.1
theorem LD{l:List Copy}(hl:ql l){zone:List UInt8}{s:Signed} : ∀ x∈f9 (gx l zone) s,x.frm<x.til:=λx hx=>by
 obtain⟨c,hc,_,_,h4⟩:=CW.1 (FC.1 hx);have h4:x=ia c:=h4;rw[h4];exact hl c hc
theorem R1{l:List Copy}{zone:List UInt8}{s:Signed}{t:Int} : inS (f9 (gx l zone) s) t↔∃ c∈l,c.zone.apex=zone/\s∈c.zone.sets/\c.frm<=t/\t<c.til:=by
 constructor
 ·rintro⟨x,hx,h1,h2⟩;obtain⟨c,hc,h3,h4,h5⟩:=CW.1 (FC.1 hx);have h5:x=ia c:=h5;subst h5;exact⟨c,hc,h3,h4,h1,h2⟩
 ·rintro⟨c,hc,h3,h4,h1,h2⟩;exact⟨ia c,FC.2 (CW.2 ⟨c,hc,h3,h4,rfl⟩),h1,h2⟩
end Np
section
open Go.RowKit
theorem sX{w:World}{B:Nat}{v:Value}{xs:List Np.Sig}(h:SlR fi 6 w B v xs){k:Nat}{x:Np.Sig}(hx:xs[k]?=some x):∃ (b o c:Nat) (s:ByteArray),v = .slice (some ⟨b,o,none⟩) xs.length c/\b<B/\s.data.toList=x.zone/\s.size<=140737488355328/\
 w.cell? ⟨b,o+k * 6,none⟩=some (.string s)/\w.cell? ⟨b,o+k * 6+1,none⟩=some (.int .i64 x.key)/\w.cell? ⟨b,o+k * 6+2,none⟩=some (.int .i64 x.alg)/\w.cell? ⟨b,o+k * 6+3,none⟩=some (.int .i64 x.frm)/\w.cell? ⟨b,o+k * 6+4,none⟩=some (.int .i64 x.til)/\w.cell? ⟨b,o+k * 6+5,none⟩=some (.int .u64 x.sum):=by
 obtain⟨A,c,rfl,hc,_,he⟩:=h;obtain⟨b,o,e,rfl,hb,_,hce,s,h1,h2,rfl⟩:=he k x hx;exact⟨b,o,c,s,rfl,hb,h1,h2,by have:=hce 0 _ rfl;simpa using this,hce 1 _ rfl,hce 2 _ rfl,hce 3 _ rfl,hce 4 _ rfl,hce 5 _ rfl⟩
theorem Pj(t:Int)(b:Bool)(w:World) :
 Calls prog 271 #[.int .i64 t,.bool b] w (ahY w (.bool (Np.je t b))):=by
 unfold Np.je;go_enter func271,ntmps271;go_wp2_with fail
 all_goals
  go_ret;refine⟨ag ?_,rfl⟩;simp_all
theorem RZ{a:List UInt8}{l:List Np.Sig}{k:Nat}{x:Np.Sig}(hx:l[k]?=some x)(h:¬ Np.SigOk a l k x):Np.yes (Np.go a l)=false:=Np.aR λhf=>h (hf.2 k x hx)
theorem TM{a:List UInt8}{l:List Np.Sig}{k:Nat}{x:Np.Sig}(hx:l[k]?=some x)(h:∀ j g,j<k->l[j]?=some g->Np.SigOk a l j g)(hk:Np.SigOk a l k x):∀ j g,j<k+1->l[j]?=some g->Np.SigOk a l j g:=λj g hj hg=>by
 by_cases e:j=k
 ·subst e;rw[hx] at hg;cases hg;exact hk
 ·exact h j g (by omega) hg
theorem aHQ(a:ByteArray)(v:Value)(l:List Np.Sig)(w:World)(h:SlR fi 6 w w.heap.size v l) :
 Calls prog 272 #[v,.string a] w (ahZ w.heap.size w (.bool (Np.yes (Np.go a.data.toList l)))):=by
 obtain⟨r,hr⟩:=afZ (Np.yes (Np.go a.data.toList l));rw[hr];have HR:=jq hr;have H:=jq h;obtain⟨A,c,rfl,bw,bT⟩:=ak h;clear h hr;by_cases h6:l.length<=6
 ·have H6:=jq h6;go_enter func272,ntmps272;go_wp2_with fail;go_loopw [12] (λi wr=>∃ k:Nat,k<=l.length/\i = .int .i64 k/\Hid (Below w.heap.size w wr)/\Hid (∀ j g,j<k->l[j]?=some g->Np.SigOk a.data.toList l j g)) (λi _=>l.length - (intOf i).toNat)
  case atStart=>exact⟨0,jQ _,rfl,jq (vQ _ _),jq (λj g hj=>by omega)⟩
  case round=>
   obtain⟨k,hk,rfl,HB,HA⟩:=hrel;by_cases ab:k<l.length
   ·have fw:=H.out.keep eL HB.out;have ae:=aQ ab;obtain⟨b,o,c',s,hA,bZ,hs,ay,e0,e1,e2,e3,e4,e5⟩:=sX fw ae
    cases hA
    have xm:=aQ (show 0<l.length by omega);obtain⟨b',o',c'',s',hA,_,_,_,_,z1,z2,z3,z4,_⟩:=sX fw xm;simp only[Value.slice.injEq,Option.some.injEq,Addr.mk.injEq,and_true,true_and] at hA;obtain⟨⟨rfl,rfl⟩,-⟩:=hA;simp only[Nat.zero_mul,Nat.add_zero] at z3 z4;have HN:Hid (∀ h:Np.SigOk a.data.toList l k l[k],∀ j g,j<k+1->l[j]?=some g->Np.SigOk a.data.toList l j g):=jq (λh=>TM ae HA.out h);have HF:Hid (¬ Np.SigOk a.data.toList l k l[k]->r=false):=jq (λh=>HR.out ▸ RZ ae h);have HZ:=jq xm;have rr:=jq ae;have HS:=jq hs;have oz:=HB.out.size;have tP:b<wr.heap.size:=by omega
    have bA:Hid (∀ o n,Below w.heap.size w ((wr.alloc o).drewN n)):=jq (λo n=>below_drewN (HB.out.alloc HB.out.size _) _);have o4:Hid (∀ o,Below w.heap.size w (wr.alloc o)):=jq (λo=>(HB.out.alloc HB.out.size _));have cj:=kNN k;have ck:(k:Int)<(l.length:Int):=by omega
    have bF:(0:Int)<(l.length:Int):=by omega
    have Ig:Hid (∀ m,k=m+1->∃ y,l[m]?=some y/\wr.cell? ⟨b,o+m * 6+1,none⟩=some (.int .i64 y.key)):=jq (λm hm=>by
     obtain⟨b2,o2,c2,s2,hA,_,_,_,_,y1,_⟩:=sX fw (aQ (show m<l.length by omega));simp only[Value.slice.injEq,Option.some.injEq,Addr.mk.injEq,and_true,true_and] at hA;obtain⟨⟨rfl,rfl⟩,-⟩:=hA;exact⟨_,aQ (by omega),y1⟩)
    generalize l[k]=x at *;generalize l[0]=x0 at *;clear fw hs ae xm z1 z2;have nr:((!s.toList == a.toList)=true)\/(!s.toList == a.toList)=false/\(decide (x.key<1)=true\/decide (x.key<1)=false/\(decide (1000000<x.key)=true\/decide (1000000<x.key)=false/\(decide (x.alg<1)=true\/decide (x.alg<1)=false/\(decide (3<x.alg)=true\/decide (3<x.alg)=false/\(decide (x.frm<0)=true\/decide (x.frm<0)=false/\(decide (x.til<x.frm)=true\/decide (x.til<x.frm)=false/\(decide (20000000<x.til)=true\/decide (20000000<x.til)=false))))))):=by
     simp only[Qa,decide_eq_false_iff_not];by_cases q:s.toList=a.toList
     ·simp[q];omega
     ·exact .inl (by simpa using q)
    rcases nr with d1 | ⟨d1,d2 | ⟨d2,d3 | ⟨d3,d4 | ⟨d4,d5 | ⟨d5,d6 | ⟨d6,d7 | ⟨d7,d8 | d8⟩⟩⟩⟩⟩⟩⟩
    rotate_right
    ·by_cases gH:k=0
     ·have gY:decide ((0:Int)<(k:Int))=false:=by simp;omega
      have jO:decide (0<k)=false:=by simp;omega
      have bW:Hid (Np.SigOk a.data.toList l k x):=jq (by
       have e1:s.toList=a.toList:=by simpa using d1
       rw[dQ,dQ] at e1;simp only[decide_eq_false_iff_not] at d2 d3 d4 d5 d6 d7 d8;have eG:x0=x:=by
        have h1:=HZ.out;rw[<-gH,rr.out] at h1;exact (Option.some.inj h1).symm
       refine⟨by rw[<-HS.out,e1],by omega,by omega,by omega,λq hq=>?_,λp _ h0=>by omega⟩;rw[HZ.out] at hq;cases hq;rw[eG];exact⟨rfl,rfl⟩)
      clear gH;go_wp2_with fail;go_quiet (fail);go_wp2_with fail;go_roundw
      case rel=>exact⟨k+1,by omega,by go_num,jq (bA.out _ _),jq (HN.out bW.out)⟩
      ·simp[intOf]<;>omega
     ·obtain⟨m,rfl⟩:∃ m,k=m+1:=⟨k - 1,by omega⟩;obtain⟨y,hy,y1⟩:=Ig.out m rfl;have HY:=jq hy;have gY:decide ((0:Int)<((m+1:Nat):Int))=true:=by simp
      have am:IntKind.i64.wrap (((m+1:Nat):Int) - 1)=(m:Int):=by rw[IntWalk.i64_in _ (by omega)];omega
      have ki:(0:Int)<=(m:Int):=by omega
      have l3:(m:Int)<(l.length:Int):=by omega
      have amY:((x.frm != x0.frm)=true)\/(x.frm != x0.frm)=false/\((x.til != x0.til)=true\/(x.til != x0.til)=false/\(decide (x.key<=y.key)=true\/decide (x.key<=y.key)=false)):=by
       simp only[bne_iff_ne,bne_eq_false_iff_eq,Qa,decide_eq_false_iff_not];omega
      clear hy gH;rcases amY with c1 | ⟨c1,c2 | ⟨c2,c3 | c3⟩⟩
      rotate_right
      ·have bW:Hid (Np.SigOk a.data.toList l (m+1) x):=jq (by
        have e1:s.toList=a.toList:=by simpa using d1
        rw[dQ,dQ] at e1;simp only[decide_eq_false_iff_not,bne_eq_false_iff_eq] at d2 d3 d4 d5 d6 d7 d8 c1 c2 c3;refine⟨by rw[<-HS.out,e1],by omega,by omega,by omega,λq hq=>?_,λp hp h0=>?_⟩
        ·rw[HZ.out] at hq;cases hq;exact⟨c1,c2⟩
        ·rw[show m+1 - 1=m by omega,HY.out] at hp;cases hp;omega)
       go_wp2_with fail;go_quiet (fail);go_wp2_with fail;go_roundw
       case rel=>exact⟨m+1+1,by omega,by go_num,jq (bA.out _ _),jq (HN.out bW.out)⟩
       ·simp[intOf]<;>omega
      all_goals
       go_wp2_with fail;go_quiet (fail);go_wp2_with fail;go_ret;refine⟨ag (HF.out ?_).symm,bA.out _ _⟩;intro ko;have k5:=ko.same _ HZ.out;have k6:=ko.up _ HY.out (by omega);simp only[bne_iff_ne,bne_eq_false_iff_eq,Qa,decide_eq_false_iff_not] at *;omega
    all_goals
     go_wp2_with fail;go_ret;refine⟨ag (HF.out ?_).symm,o4.out _⟩;intro ko;obtain⟨k1,k2,k3,k4,_,_⟩:=ko
     first
      | (rw[dQ,dQ,HS.out,k1] at d1;simp at d1;done)
      | (simp only[Qa,decide_eq_false_iff_not] at *;omega)
   ·go_wp2_with fail;go_ret;refine⟨ag ?_,HB.out⟩;rw[<-HR.out];exact (Np.bV ⟨H6.out,λj g hg=>HA.out j g (by have:=(cQ.1 hg).1;omega) hg⟩).symm
 ·have h6':6<l.length:=by omega
  have HF:Hid (r=false):=jq (by rw[<-HR.out];exact Np.aR λhf=>h6 hf.1);clear h6;go_enter func272,ntmps272;go_wp2_with fail;go_ret;exact⟨ag HF.out.symm,vQ _ _⟩
theorem Ur(s:ByteArray)(hs:s.size<=140737488355328)(w:World) :
 Calls prog 242 #[.string s,.string ⟨#[42]⟩] w (ahY w (.bool (Np.eH s.data.toList))):=by
 have h1:1<=s.size->((s.extract 0 1).toList == [42])=Np.eH s.data.toList:=Sb s;have h2:s.size<1->Np.eH s.data.toList=false:=λh=>by
  have:s.data.toList = []:=rQ (by rw[bj];omega)
  rw[this];rfl
 have H1:=jq h1;have H2:=jq h2;clear h1 h2;go_enter func242,ntmps242;go_wp2
 ·go_ret;exact⟨ag (H1.out (by omega)),rfl⟩
 ·go_ret;exact⟨ag (H2.out (by omega)).symm,rfl⟩
def qi(l:List Np.Signed)(k:Nat):Option Np.DSet:=(l.take k).getLast?.map (·.set)
theorem Gk{l:List Np.Signed}{k:Nat}{x:Np.Signed}(h:l[k]?=some x):qi l (k+1)=some x.set:=by
 obtain⟨hl,rfl⟩:=cQ.1 h;unfold qi;rw[fQ hl,List.getLast?_append];rfl
theorem Up{apex:List UInt8}{l:List Np.Signed}{k:Nat}{x:Np.Signed}(h:l[k]?=some x)(p:Option Np.DSet) :
 Np.jG apex p (l.drop k)=((Np.al x.set.name&&Np.aX x.set.name apex)&&Np.dT x.set&&(match p with | none=>true | some q=>decide (Np.gE q x.set<0))&&Np.jG apex (some x.set) (l.drop (k+1))):=by
 obtain⟨hl,rfl⟩:=cQ.1 h;rw[sQ hl]
 cases p<;>rfl
def X7(w1:World)(apex:List UInt8)(l:List Np.Signed)(i:Value)(wr:World):Prop:=
 ∃ k:Nat,k<=l.length/\i = .int .i64 k/\Below w1.heap.size w1 wr/\Hid (∀ j x,j<k->l[j]?=some x->Np.dT x.set=true)/\Hid (Np.jG apex none l=Np.jG apex (qi l k) (l.drop k))
theorem buJ(a:ByteArray)(ha:a.size<=140737488355328)(v:Value)(l:List Np.Signed)(bY:l.length<=20000)(w:World)(hR:gq w w.heap.size)(hd:SlR br 5 w w.heap.size v l) :
 Calls prog 198 #[.agg #[.string a,v]] w (ahZ w.heap.size w (.bool (Np.eK ⟨a.data.toList,l⟩))):=by
 have HR:=jq hR;have HD:=jq hd;obtain⟨A,c,rfl,bw,bT,-⟩:=hd;clear hR;have HW:=blW w;go_enter func198,ntmps198;go_wp2_with fail;refine (nameValid_any _ ha _).mono ?_;rintro e w1 ⟨rfl,hb⟩;have c0:w1.cell? ⟨w.heap.size,0,none⟩=some (.string a):=by rw[hb.cell (by simp)];go_simp
 have c1:w1.cell? ⟨w.heap.size,1,none⟩=some (.slice A l.length c):=by rw[hb.cell (by simp)];go_simp
 have dG:w.heap.size<w1.heap.size:=by have:=hb.size;simp at this;omega
 have aF:=jq ((HW.out _).trans (hb.mono (by simp)));clear hb
 cases qY:Np.al a.data.toList with
 | false=>
  have HF:Hid (Np.eK ⟨a.data.toList,l⟩=false):=jq (by unfold Np.eK;rw[qY];rfl);clear qY;go_wp2_with fail;go_ret;exact⟨ag HF.out.symm,aF.out⟩
 | true=>
  have yr:=jq qY;clear qY
  cases bg:Np.eH a.data.toList with
  | true=>
   have HF:Hid (Np.eK ⟨a.data.toList,l⟩=false):=jq (by unfold Np.eK;rw[bg];simp);go_wp2_with (go_at_call 242;refine (Ur a ha _).mono ?_;rintro e w' ⟨rfl,rfl⟩);go_ret;exact⟨ag HF.out.symm,aF.out⟩
  | false=>
   have HF:Hid (Np.eK ⟨a.data.toList,l⟩=Np.jG a.data.toList none l):=jq (by unfold Np.eK;rw[bg,yr.out];simp);go_wp2_with (go_at_call 242;refine (Ur a ha _).mono ?_;rintro e w' ⟨rfl,rfl⟩);clear bg;go_loopw [30] (λi wr=>X7 w1 a.data.toList l i wr) (λi _=>l.length - (intOf i).toNat)
   case atStart=>exact⟨0,jQ _,rfl,vQ _ _,jq (λj x hj=>by omega),jq rfl⟩
   case round=>
    obtain⟨k,hk,rfl,aM,HV,HG⟩:=hrel;by_cases ab:k<l.length
    ·have lY:Below w.heap.size w wr:=aF.out.trans (aM.afK);have ae:=aQ ab;obtain⟨b,o,c',sn,dv,sv,hA,bZ,_,aD,ay,aY,aN,e0,e1,e2,e3,e4⟩:=dB (HD.out.keep aP lY) ae
     cases hA
     generalize hx:l[k]=x at *;clear hx;obtain⟨Ad,cd,rfl,JX,nC⟩:=ak aY;obtain⟨As,cs,rfl,hcs,hls⟩:=ak aN;have d0:wr.cell? ⟨w.heap.size,0,none⟩=some (.string a):=by rw[aM.cell (by simpa using dG)];exact c0
     have d1:wr.cell? ⟨w.heap.size,1,none⟩=some (.slice (some ⟨b,o,none⟩) l.length c):=by rw[aM.cell (by simpa using dG)];exact c1
     have du:w.heap.size<wr.heap.size:=by have:=aM.size;omega
     have jy:=jq aY;have HX:=jq ae;have aZ:=jq aD;have aS:=jq aM;have xP:=jq lY;have qv:=jq (HG.out.trans (Up ae (qi l k)));clear aY aN ae aD aM lY c0 c1;go_wp2_with fail;have dW:Below wr.heap.size wr (wr.alloc (.cells #[.string sn,.int .i64 x.set.type,.int .i64 x.set.life,.slice Ad x.set.data.length cd,.slice As x.sigs.length cs] 42)):=blAl;have p0:=World.cell?_alloc_new wr #[.string sn,.int .i64 x.set.type,.int .i64 x.set.life,.slice Ad x.set.data.length cd,.slice As x.sigs.length cs] 42 0;have p1:=World.cell?_alloc_new wr #[.string sn,.int .i64 x.set.type,.int .i64 x.set.life,.slice Ad x.set.data.length cd,.slice As x.sigs.length cs] 42 1;have gw:wr.heap.size<(wr.alloc (.cells #[.string sn,.int .i64 x.set.type,.int .i64 x.set.life,.slice Ad x.set.data.length cd,.slice As x.sigs.length cs] 42)).heap.size:=by simp
     generalize wr.alloc (.cells #[.string sn,.int .i64 x.set.type,.int .i64 x.set.life,.slice Ad x.set.data.length cd,.slice As x.sigs.length cs] 42)=wa at dW p0 p1 gw |-;have fK:=jq dW;have uK:=aeX xP dW;replace p0:wa.cell? ⟨wr.heap.size,0,none⟩=some (.string sn):=p0;replace p1:wa.cell? ⟨wr.heap.size,1,none⟩=some (.int .i64 x.set.type):=p1;replace d0:wa.cell? ⟨w.heap.size,0,none⟩=some (.string a):=by rw[dW.cell (by simpa using du)];exact d0
     replace d1:wa.cell? ⟨w.heap.size,1,none⟩=some (.slice (some ⟨b,o,none⟩) l.length c):=by rw[dW.cell (by simpa using du)];exact d1
     clear dW e0 e1 e2 e3 e4;refine (Ti sn ay _ _ _ x.set.data _ ((HR.out.keep uK.out).more (by omega)) ((jy.out.keep cJ (fK.out.afK)).more di (by omega))).mono ?_;have uh:(⟨sn.data.toList,x.set.type,x.set.life,x.set.data⟩:Np.DSet)=x.set:=by rw[aZ.out]
     rw[uh];clear uh;rintro e w2 ⟨rfl,aa⟩;have aO:wr.heap.size<w2.heap.size:=by have:=aa.size;omega
     have aFY:w.heap.size<w2.heap.size:=by omega
     replace d0:w2.cell? ⟨w.heap.size,0,none⟩=some (.string a):=by rw[aa.cell (by simp;omega)];exact d0
     replace d1:w2.cell? ⟨w.heap.size,1,none⟩=some (.slice (some ⟨b,o,none⟩) l.length c):=by rw[aa.cell (by simp;omega)];exact d1
     replace p0:w2.cell? ⟨wr.heap.size,0,none⟩=some (.string sn):=by rw[aa.cell (by simpa using gw)];exact p0
     replace p1:w2.cell? ⟨wr.heap.size,1,none⟩=some (.int .i64 x.set.type):=by rw[aa.cell (by simpa using gw)];exact p1
     have ah:=aeX uK aa;have UB:=aeX fK aa;clear aa
     cases fy:Np.dT x.set with
     | false=>
      have j8:=jq fy;clear fy;go_wp2_with fail;go_ret;refine⟨ag ?_,ah.out⟩;rw[HF.out,qv.out,j8.out,Bool.and_false];rfl
     | true=>
      have j8:=jq fy;have ly:Np.al sn.data.toList=true:=by rw[aZ.out];exact zO fy
      have dV:=jq ly;have BL:∀ j y,j<k+1->l[j]?=some y->Np.dT y.set=true:=λj y hj hy=>by
       by_cases e:j=k
       ·subst e;rw[HX.out] at hy;cases hy;exact fy
       ·exact HV.out j y (by omega) hy
      have qm:=jq BL;clear fy ly BL;go_wp2_with fail;refine (zN sn a ay ha _ dV.out yr.out).mono ?_;rintro e w3 ⟨rfl,ai⟩;have dR:wr.heap.size<w3.heap.size:=by have:=ai.size;omega
      have aGQ:w.heap.size<w3.heap.size:=by omega
      replace d1:w3.cell? ⟨w.heap.size,1,none⟩=some (.slice (some ⟨b,o,none⟩) l.length c):=by rw[ai.cell (by simp;omega)];exact d1
      replace p0:w3.cell? ⟨wr.heap.size,0,none⟩=some (.string sn):=by rw[ai.cell (by simpa using aO)];exact p0
      replace p1:w3.cell? ⟨wr.heap.size,1,none⟩=some (.int .i64 x.set.type):=by rw[ai.cell (by simpa using aO)];exact p1
      have aw:=aeX ah ai;have Mb:=aeX UB ai;clear ai d0
      cases eV:Np.aX sn.data.toList a.data.toList with
      | false=>
       have AS:=jq eV;clear eV;go_wp2_with fail;go_ret;refine⟨ag ?_,aw.out⟩;rw[HF.out,qv.out,<-aZ.out,dV.out,AS.out];rfl
      | true=>
       have cV:=jq (show Np.jG a.data.toList none l=((match qi l k with | none=>true | some q=>decide (Np.gE q x.set<0))&&Np.jG a.data.toList (qi l (k+1)) (l.drop (k+1))) by
        rw[qv.out,<-aZ.out,dV.out,eV,j8.out,Gk HX.out];rfl)
       clear eV;by_cases cj:k=0
       ·subst cj;go_wp2_with fail;go_roundw
        case rel=>exact⟨1,by omega,by go_num,aS.out.trans (Mb.out.mono aS.out.size),qm,jq (by rw[cV.out];rfl)⟩
        ·simp[intOf]<;>omega
       ·obtain⟨i,rfl⟩:∃ i,k=i+1:=⟨k - 1,by omega⟩;have r9:=aQ (show i<l.length by omega);obtain⟨b',o',c'',sq,dq,sg,pz,BN,_,ku,Rp,BZ,_,f0,f1,f2,f3,_⟩:=dB ((HD.out.keep aP aw.out)) r9
        cases pz
        have CK:=zO (HV.out i l[i] (by omega) r9);generalize hy:l[i]=y at *;clear hy;obtain⟨Aq,cq,rfl,hcq,QD⟩:=ak BZ;have za:((((i+1:Nat):Int)) == 0)=false:=by simp;omega
        have XH:Hid (Np.al sq.data.toList=true):=jq (by rw[ku];exact CK);have Vo:Hid (Np.eR (sq.data.toList,y.set.type) (sn.data.toList,x.set.type)=Np.gE y.set x.set):=jq (by rw[ku,aZ.out,Np.IV];rfl);have vm:=jq (Gk r9);clear BZ ku r9 CK;have bEJ:b<w3.heap.size:=by omega
        have am:IntKind.i64.wrap (((i+1:Nat):Int) - 1)=(i:Int):=by rw[IntWalk.i64_in _ (by omega)];omega
        have ki:(0:Int)<=(i:Int):=by omega
        have l3:(i:Int)<(l.length:Int):=by omega
        have oZ:Hid (∀ o,Below w3.heap.size w3 (w3.alloc o)):=jq (λo=>blAl);go_wp2_with fail;refine (Uq sq sn Rp ay _ _ XH.out dV.out _).mono ?_;rw[Vo.out];rintro e w4 ⟨rfl,ar⟩;have bi:=jq ((oZ.out _).trans (ar.mono (by simp)));clear ar;by_cases fW:Np.gE y.set x.set<0
        ·have kM:=jq (uQ fW);have JY:¬ (0<=Np.gE y.set x.set):=by omega
         clear fW;go_wp2_with fail;go_roundw
         case rel=>
          refine⟨i+1+1,by omega,by go_num,aS.out.trans ((Mb.out.trans (bi.out.afK)).mono aS.out.size),qm,jq ?_⟩;rw[cV.out,vm.out];simp only[kM.out,Bool.true_and]
         case measure=>simp[intOf]<;>omega
        ·have kM:=jq (tQ fW);have JY:0<=Np.gE y.set x.set:=by omega
         clear fW;go_wp2_with fail;go_ret;refine⟨ag ?_,aw.out.trans (bi.out.afK)⟩;rw[HF.out,cV.out,vm.out];simp only[kM.out,Bool.false_and]
    ·go_wp2_with fail;go_ret;refine⟨ag ?_,aF.out.trans (aM.afK)⟩;rw[HF.out,HG.out,List.drop_eq_nil_of_le (by omega)];rfl
theorem aaQ(s1 s2:ByteArray)(h1:s1.size<=140737488355328)(h2:s2.size<=140737488355328)(t1 l1 t2:Int)(A1 A2:Option Addr)(m1 c1 m2 c2:Nat)(n1:Np.al s1.data.toList=true)(n2:Np.al s2.data.toList=true)(w:World) :
 Calls prog 328 #[.agg #[.string s1,.int .i64 t1,.int .i64 l1,.slice A1 m1 c1,.slice A2 m2 c2],.agg #[.string s2,.int .i64 t2]] w
  λe w'=>e = .returned (.int .i64 (Np.eR (s1.data.toList,t1) (s2.data.toList,t2)))/\Below w.heap.size w w':=by
 have HW:Hid (∀ o o',Below w.heap.size w ((w.alloc o).alloc o')):=jq (λo o'=>((vQ _ w).alloc (bQ _) _).alloc (by simp) _);have N1:=jq n1;have N2:=jq n2;clear n1 n2;go_enter func328,ntmps328;go_wp2_with fail;refine (Uq s1 s2 h1 h2 _ _ N1.out N2.out _).mono ?_;rintro e w1 ⟨rfl,hb⟩;have HB:=jq ((HW.out _ _).trans (hb.mono (by simp;omega)));clear hb;go_wp2_with fail;go_ret;exact⟨rfl,HB.out⟩
def Np.C0(l:List Np.Signed)(key:List UInt8×Int):Nat:=l.countP λx=>decide (Np.eR (Np.cx x.set) key<0)
def Np.rI(l:List Np.Signed):Prop:=l.Pairwise λa b=>Np.eR (Np.cx a.set) (Np.cx b.set)<0
theorem aXZ{l:List Np.Signed}{key:List UInt8×Int}{i:Nat}(hi:i<=l.length)(h1:∀ j x,j<i->l[j]?=some x->Np.eR (Np.cx x.set) key<0)(h2:∀ j x,i<=j->l[j]?=some x->¬ Np.eR (Np.cx x.set) key<0):Np.C0 l key=i:=by
 unfold Np.C0;have e:=List.take_append_drop i l;rw[<-e,List.countP_append,List.countP_eq_length.2,List.countP_eq_zero.2]
 ·rw[List.length_take];omega
 ·intro x hx;obtain⟨j,hj,rfl⟩:=nQ.1 hx;rw[List.getElem_drop];simpa using h2 (i+j) _ (by omega) (aQ _)
 ·intro x hx;obtain⟨j,hj,rfl⟩:=nQ.1 hx;rw[List.getElem_take];rw[List.length_take] at hj;simpa using h1 j _ (by omega) (aQ _)
theorem acK{l:List Np.Signed}(hs:Np.rI l){key:List UInt8×Int}{i:Nat}(h1:∀ j x,j<i->l[j]?=some x->Np.eR (Np.cx x.set) key<0)(h2:∀ j x,i<=j->l[j]?=some x->¬ Np.eR (Np.cx x.set) key<0):(∃ x∈l,Np.cx x.set=key)↔∃ x,l[i]?=some x/\Np.eR (Np.cx x.set) key=0:=by
 constructor
 ·rintro⟨x,hx,rfl⟩;obtain⟨j,hj,rfl⟩:=nQ.1 hx;have aAJ:=Np.xD.self (Np.cx l[j].set);rcases Nat.lt_trichotomy j i with h | h | h
  ·have:=h1 j _ h (aQ hj)
   omega
  ·subst h;exact⟨_,aQ hj,aAJ⟩
  ·exact absurd (List.pairwise_iff_getElem.1 hs i j (by omega) hj h) (h2 i _ (bQ _) (aQ (by omega)))
 ·rintro⟨x,hx,h⟩;exact⟨x,gQ hx,Np.xD.zero _ _ h⟩
theorem Gc{l:List Np.Signed}(hs:Np.rI l){i j:Nat}{x y:Np.Signed}(hx:l[i]?=some x)(hy:l[j]?=some y)(h:i<j):Np.eR (Np.cx x.set) (Np.cx y.set)<0:=by
 obtain⟨hi,rfl⟩:=cQ.1 hx;obtain⟨hj,rfl⟩:=cQ.1 hy;exact List.pairwise_iff_getElem.1 hs i j hi hj h
theorem Lr{z:Np.Zone}(h:Np.InOrder z):Np.rI z.sets:=by
 have:=h.order
 rw[List.pairwise_map] at this;exact this.imp λh=>by rw[<-Np.IV];exact h
def Np.fS(l:List Np.Signed)(n:List UInt8)(t:Int):Prop:=∃ x∈l,x.set.name=n/\x.set.type=t
theorem JJ{l:List Np.Signed}{n:List UInt8}{t:Int} : Np.fS l n t↔∃ x∈l,Np.cx x.set=(n,t):=by
 unfold Np.fS Np.cx;simp only[Prod.mk.injEq]
theorem YG(v:Value)(l:List Np.Signed)(bY:l.length<=20000)(hv:∀ x∈l,Np.al x.set.name=true)(hs:Np.rI l)(q:ByteArray)(hq:q.size<=140737488355328)(qt:Int)(nq:Np.al q.data.toList=true)(w:World)(hd:SlR br 5 w w.heap.size v l) :
 Calls prog 327 #[v,.agg #[.string q,.int .i64 qt],.func (.func 328) #[] #[]] w
  λe w'=>e = .returned (.tuple #[.int .i64 (Np.C0 l (q.data.toList,qt)),.bool (Np.yes (Np.fS l q.data.toList qt))])/\Below w.heap.size w w':=by
 obtain⟨pl,dY⟩:=afZ (Np.C0 l (q.data.toList,qt));obtain⟨r,hr⟩:=afZ (Np.yes (Np.fS l q.data.toList qt));rw[dY,hr];have gl:=jq dY;have HR:=jq hr;have HV:=jq hv;have HS:=jq hs;have HD:=jq hd;have NQ:=jq nq;have eg:∀ args w,(callFunc 328 args).run prog w = .ok (.enter 328 args) w:=enters_of func328 (by kernel_rfl) rfl;obtain⟨A,c,rfl,bw,bT⟩:=ak hd;clear dY hr hv hs hd nq;have HW:=blW w;go_enter func327,ntmps327;go_wp2_with fail;have c0:=World.cell?_alloc_new w #[.string q,.int .i64 qt] 31 0;have c1:=World.cell?_alloc_new w #[.string q,.int .i64 qt] 31 1;have dG:w.heap.size<(w.alloc (.cells #[.string q,.int .i64 qt] 31)).heap.size:=by simp
 have aF:=jq (HW.out (.cells #[.string q,.int .i64 qt] 31));generalize w.alloc (.cells #[.string q,.int .i64 qt] 31)=w1 at c0 c1 dG aF |-;replace c0:w1.cell? ⟨w.heap.size,0,none⟩=some (.string q):=c0;replace c1:w1.cell? ⟨w.heap.size,1,none⟩=some (.int .i64 qt):=c1;go_loopg [9,10] l.length (λg s7 s8 wr=>∃ lo hi:Nat,s7 = .int .i64 lo/\s8 = .int .i64 hi/\lo<=hi/\hi<=l.length/\hi - lo<=g/\Hid (Below w1.heap.size w1 wr)/\Hid ((∀ j x,j<lo->l[j]?=some x->Np.eR (Np.cx x.set) (q.data.toList,qt)<0)/\(∀ j x,hi<=j->l[j]?=some x->¬ Np.eR (Np.cx x.set) (q.data.toList,qt)<0)))
 case atStart=>exact⟨0,l.length,rfl,rfl,jQ _,bQ _,by omega,jq (vQ _ _),jq ⟨λj x hj=>by omega,λj x hj hx=>by have:=(cQ.1 hx).1;omega⟩⟩
 case round=>
  obtain⟨lo,hi,rfl,rfl,hlh,hin,hg,HB,HI⟩:=hrel;have aEJ:=HB.out.size;have d0:wr.cell? ⟨w.heap.size,0,none⟩=some (.string q):=by rw[HB.out.cell (by simpa using dG)];exact c0
  have d1:wr.cell? ⟨w.heap.size,1,none⟩=some (.int .i64 qt):=by rw[HB.out.cell (by simpa using dG)];exact c1
  have du:w.heap.size<wr.heap.size:=by omega
  have aH:=aeX aF HB.out;have nv:∀ (g:bN wr) (p:Addr),p.block<wr.heap.size->g.w.cell? p=wr.cell? p:=λg p h=>g.cell p h;have fw:=HD.out.keep aP aH.out;have jx:Hid (∀ (k:Nat) (x:Np.Signed),l[k]?=some x->∃ (b o c':Nat) (s:ByteArray) (Ad:Option Addr) (md cd:Nat) (As:Option Addr) (ms cs:Nat),A=some ⟨b,o,none⟩/\b<wr.heap.size/\wr.cell? ⟨b,o+k * 5,none⟩=some (.string s)/\wr.cell? ⟨b,o+k * 5+1,none⟩=some (.int .i64 x.set.type)/\wr.cell? ⟨b,o+k * 5+2,none⟩=some (.int .i64 x.set.life)/\wr.cell? ⟨b,o+k * 5+3,none⟩=some (.slice Ad md cd)/\wr.cell? ⟨b,o+k * 5+4,none⟩=some (.slice As ms cs)/\
   ∀ g:bN wr,Calls prog 328 #[.agg #[.string s,.int .i64 x.set.type,.int .i64 x.set.life,.slice Ad md cd,.slice As ms cs],.agg #[.string q,.int .i64 qt]] g.w λe w'=>e = .returned (.int .i64 (Np.eR (Np.cx x.set) (q.data.toList,qt)))/\Below g.w.heap.size g.w w'):=jq (λk x hx=>by
   obtain⟨b,o,c',s,dv,sv,hA,bZ,_,aD,ay,aY,aN,e0,e1,e2,e3,e4⟩:=dB fw hx
   cases hA
   obtain⟨Ad,cd,rfl,_,_⟩:=ak aY;obtain⟨As,cs,rfl,_,_⟩:=ak aN;refine⟨b,o,c,s,Ad,_,cd,As,_,cs,rfl,by omega,e0,e1,e2,e3,e4,λg=>?_⟩
   have:=aaQ s q ay hq x.set.type x.set.life qt Ad As x.set.data.length cd x.sigs.length cs (by rw[aD];exact HV.out x (gQ hx)) NQ.out g.w
   rw[aD] at this;exact this)
  clear fw c0 c1;by_cases ab:lo<hi
  ·obtain⟨k,hk⟩:=afZ ((lo+hi) / 2);have nA:k<l.length:=by omega
   have ae:=aQ nA;obtain⟨b,o,c',s,Ad,md,cd,As,ms,cs,rfl,aM,e0,e1,e2,e3,e4,bP⟩:=jx.out k _ ae;generalize hx:l[k]=x at *;have HX:=jq ae;have mo:=jq bP;have hkI:((lo:Int)+(hi:Int)) / 2=(k:Int):=by omega
   have HK:=jq hk;have cj:(0:Int)<=(k:Int):=by omega
   have ck:(k:Int)<(l.length:Int):=by omega
   clear ae bP hx hk;by_cases hc:Np.eR (Np.cx x.set) (q.data.toList,qt)<0
   ·have HN:Hid (∀ j y,j<k+1->l[j]?=some y->Np.eR (Np.cx y.set) (q.data.toList,qt)<0):=jq (λj y hj hy=>by
     by_cases e:j=k
     ·subst e;rw[HX.out] at hy;cases hy;exact hc
     ·exact Np.xD.trans _ _ _ (Gc HS.out hy HX.out (by omega)) hc)
    have dE:decide (Np.eR (Np.cx x.set) (q.data.toList,qt)<0)=true:=by simpa using hc
    clear hc;go_wp2_with fail;refine agY ?_
    repeat (go_big_quiet_step ((go_at_call 328;exact Calls.grow_of (mo.out _))))
    refine wpQuiet_nil ?_;rintro _ ⟨g,rfl⟩;go_wp2_with fail;go_roundg (hi - (k+1))
    case measure=>have:=HK.out;omega
    case rel=>exact⟨k+1,hi,by go_num,rfl,by have:=HK.out;omega,hin,bQ _,aeX HB g.below,jq ⟨HN.out,HI.out.2⟩⟩
   ·have HN:Hid (∀ j y,k<=j->l[j]?=some y->¬ Np.eR (Np.cx y.set) (q.data.toList,qt)<0):=jq (λj y hj hy ab=>by
     by_cases e:j=k
     ·subst e;rw[HX.out] at hy;cases hy;exact hc ab
     ·exact hc (Np.xD.trans _ _ _ (Gc HS.out HX.out hy (by omega)) ab))
    have dE:decide (Np.eR (Np.cx x.set) (q.data.toList,qt)<0)=false:=by simpa using hc
    clear hc;go_wp2_with fail;refine agY ?_
    repeat (go_big_quiet_step ((go_at_call 328;exact Calls.grow_of (mo.out _))))
    refine wpQuiet_nil ?_;rintro _ ⟨g,rfl⟩;go_wp2_with fail;go_roundg (k - lo)
    case measure=>have:=HK.out;omega
    case rel=>exact⟨lo,k,rfl,by go_num,by have:=HK.out;omega,by omega,bQ _,aeX HB g.below,jq ⟨HI.out.1,HN.out⟩⟩
  ·obtain rfl:hi=lo:=by omega
   have HE:Hid (pl=hi):=jq (by rw[<-gl.out];exact aXZ hin HI.out.1 HI.out.2);have HF:Hid (r=Np.yes (∃ x,l[hi]?=some x/\Np.eR (Np.cx x.set) (q.data.toList,qt)=0)):=jq (by rw[<-HR.out];exact Np.uE (JJ.trans (acK HS.out HI.out.1 HI.out.2)));by_cases hn:hi<l.length
   ·have ae:=aQ hn;obtain⟨b,o,c',s,Ad,md,cd,As,ms,cs,rfl,aM,e0,e1,e2,e3,e4,bP⟩:=jx.out hi _ ae;generalize hx:l[hi]=x at *;have HX:=jq ae;have mo:=jq bP;have cj:(0:Int)<=(hi:Int):=by omega
    have ck:(hi:Int)<(l.length:Int):=by omega
    clear ae bP hx;by_cases hc:Np.eR (Np.cx x.set) (q.data.toList,qt)=0
    ·have HT:Hid (r=true):=jq (by rw[HF.out];exact Np.bV ⟨x,HX.out,hc⟩);have dE:(Np.eR (Np.cx x.set) (q.data.toList,qt) == 0)=true:=by simpa using hc
     clear hc;go_wp2_with fail;refine agY ?_
     repeat (go_big_quiet_step ((go_at_call 328;exact Calls.grow_of (mo.out _))))
     refine wpQuiet_nil ?_;rintro _ ⟨g,rfl⟩;go_wp2_with fail;go_ret2;exact⟨by rw[HE.out,HT.out];rfl,aH.out.trans (g.below.afK)⟩
    ·have HT:Hid (r=false):=jq (by rw[HF.out];exact Np.aR λ⟨y,hy,h0⟩=>by rw[HX.out] at hy;cases hy;exact hc h0);have dE:(Np.eR (Np.cx x.set) (q.data.toList,qt) == 0)=false:=by simpa using hc
     clear hc;go_wp2_with fail;refine agY ?_
     repeat (go_big_quiet_step ((go_at_call 328;exact Calls.grow_of (mo.out _))))
     refine wpQuiet_nil ?_;rintro _ ⟨g,rfl⟩;go_wp2_with fail;go_ret2;exact⟨by rw[HE.out,HT.out];rfl,aH.out.trans (g.below.afK)⟩
   ·have HT:Hid (r=false):=jq (by rw[HF.out];exact Np.aR λ⟨y,hy,h0⟩=>by have:=(cQ.1 hy).1;omega);have bS:decide ((hi:Int)<(l.length:Int))=false:=by simp;omega
    have cR:decide (hi<l.length)=false:=by simp;omega
    go_wp2_with fail;refine agY ?_
    repeat (go_big_quiet_step (fail))
    refine wpQuiet_nil ?_;rintro _ ⟨g,rfl⟩;go_wp2_with fail;go_ret2;exact⟨by rw[HE.out,HT.out];rfl,aH.out.trans (g.below.afK)⟩
theorem I9(a:ByteArray)(v:Value)(l:List Np.Signed)(bY:l.length<=20000)(hv:∀ x∈l,Np.al x.set.name=true)(hs:Np.rI l)(q:ByteArray)(hq:q.size<=140737488355328)(qt:Int)(nq:Np.al q.data.toList=true)(w:World)(hd:SlR br 5 w w.heap.size v l) :
 Calls prog 262 #[.agg #[.string a,v],.agg #[.string q,.int .i64 qt]] w
  λe w'=>e = .returned (.tuple #[.int .i64 (Np.C0 l (q.data.toList,qt)),.bool (Np.yes (Np.fS l q.data.toList qt))])/\Below w.heap.size w w':=by
 have HV:=jq hv;have HS:=jq hs;have HD:=jq hd;have NQ:=jq nq;obtain⟨A,c,rfl,bw,bT⟩:=ak hd;have HW:Hid (∀ o o',Below w.heap.size w ((w.alloc o).alloc o')):=jq (λo o'=>((vQ _ w).alloc (bQ _) _).alloc (by simp) _);clear hv hs hd nq;go_enter func262,ntmps262;go_wp2_with fail;refine (YG _ l bY HV.out HS.out q hq qt NQ.out _ (HD.out.later aP bK (HW.out _ _))).mono ?_;rintro e w1 ⟨rfl,hb⟩;have HB:=jq ((HW.out _ _).trans (hb.mono (by simp;omega)));clear hb;go_wp2_with fail;go_ret2;exact⟨rfl,HB.out⟩
theorem dS{W W':World}{base:Nat}{e:TypeId}{size:Nat}{v:Value}{k:Nat}{xs:List Value}(h:W.ownsRow base e size v k xs)(hs:∀ g,v.ownBlock=some g->W'.heap[g]?=W.heap[g]?):W'.ownsRow base e size v k xs:=by
 refine⟨h.1,?_⟩;rcases h.2 with hn | ⟨g,cap,cur,rfl,hb,hg,rest⟩
 ·exact .inl hn
 ·exact .inr ⟨g,cap,cur,rfl,hb,(hs g rfl).trans hg,rest⟩
theorem Ln{α:Type}{R:aiQ α}{sz:Nat}{W:World}{base:Nat}{e:TypeId}{v:Value}{xs:List α}(enc:α->List Value)(hlen:∀ x∈xs,(enc x).length=sz)
 (h:W.ownsRow base e sz v xs.length (xs.flatMap enc)) (hl:xs.length<=140737488355328) (hR:∀ x∈xs,R W W.heap.size (enc x) x):SlR R sz W W.heap.size v xs:=by
 have awQ:∀ (l:List α) (i:Nat) (x:α) (j:Nat) (u:Value),(∀ y∈l,(enc y).length=sz)->l[i]?=some x->(enc x)[j]?=some u->(l.flatMap enc)[i * sz+j]?=some u:=by
  intro l
  induction l with
  | nil=>intro i x j u _ hi;simp at hi
  | cons y l ih=>
   intro i x j u fF hi hj;rw[List.flatMap_cons];have hy:(enc y).length=sz:=fF y (by simp)
   cases i with
   | zero=>
    simp at hi;subst hi;rw[List.getElem?_append_left (by have:=(cQ.1 hj).1;omega)];simpa using hj
   | succ i=>
    rw[oQ (by rw[hy,Nat.succ_mul];omega),hy]
    have:=ih i x j u (λy hy=>fF y (by simp[hy])) (by simpa using hi) hj
    rw[show (i+1) * sz+j - sz=i * sz+j by rw[Nat.succ_mul];omega];exact this
 rcases h.2 with ⟨rfl,h0⟩ | ⟨g,cap,cur,rfl,hb,hg,lu,_,_,Rw⟩
 ·have:xs = []:=rQ h0
  subst this;exact⟨none,0,rfl,by simp,by simp,λi x hx=>by simp at hx⟩
 ·refine⟨_,cap,rfl,lu,hl,λi x hx=>⟨g,0,enc x,rfl,(eQ.1 hg).1,hlen x (gQ hx),λj u hj=>?_,hR x (gQ hx)⟩⟩;have h1:=awQ xs i x j u hlen hx hj;have h2:=h.cells (g:=g) rfl _ _ h1;have mw:(⟨g,0,none⟩:Addr).add (i * sz+j)=⟨g,0+i * sz+j,none⟩:=by unfold Addr.add;split<;>simp_all
  rw[mw] at h2;exact h2
def ei(_:World)(_:Nat)(e:List Value)(x:Int):Prop:=e = [.int .i64 x]
theorem kE:dl ei:=λ_ _ _ _ _ h _=>h
theorem qa:dy ei:=λ_ _ _ _ _ h _=>h
theorem Su{α:Type}(f:α->Value)(l:List α):l.map f=l.flatMap λx=>[f x]:=by induction l<;>simp_all
theorem oN{W:World}{base:Nat}{e:TypeId}{size:Nat}{v:Value}{k:Nat}{xs:List Value}(h:W.ownsRow base e size v k xs):∃ A cap,v = .slice A k cap:=by
 rcases h.2 with ⟨rfl,rfl⟩ | ⟨g,cap,_,rfl,_⟩
 ·exact⟨none,0,rfl⟩
 ·exact⟨_,cap,rfl⟩
theorem aWZ{W:World}{base:Nat}{e:TypeId}{size:Nat}{v:Value}{k:Nat}{xs:List Value}(h:W.ownsRow base e size v k xs):∀ g,v.ownBlock=some g->base<=g/\g<W.heap.size:=h.lt
structure Turned(b:Nat)(w w':World):Prop where
 os:w'.os=w.os
 tape:w'.tape=w.tape
 output:w'.output=w.output
 size:w'.heap.size=w.heap.size
 block:∀ i,i≠b->w'.heap[i]?=w.heap[i]?
theorem Turned.refl(b:Nat)(w:World):Turned b w w:=⟨rfl,rfl,rfl,rfl,λ_ _=>rfl⟩
theorem Turned.trans{b:Nat}{u v w:World}(h:Turned b u v)(k:Turned b v w):Turned b u w:=⟨k.os.trans h.os,k.tape.trans h.tape,k.output.trans h.output,k.size.trans h.size,λi hi=>(k.block i hi).trans (h.block i hi)⟩
theorem Turned.cell{b:Nat}{w w':World}(h:Turned b w w'){p:Addr}(hp:p.block≠b):w'.cell? p=w.cell? p:=by
 unfold World.cell?;rw[h.block _ hp]
theorem Turned.grown{b:Nat}{w w':World}(h:Turned b w w'):w.grownBy w' (some b):=⟨h.os,h.tape,h.output,by rw[h.size];exact bQ _,λi _ hne=>h.block i (λe=>hne (by rw[e]))⟩
theorem Turned.below{b n:Nat}{w w':World}(h:Turned b w w')(hn:n<=b):Below n w w':=⟨h.os,h.tape,h.output,by rw[h.size];exact bQ _,λi hi=>h.block i (by omega)⟩
end
end Go.Proofs.YtfnopgdcaanaiaaGreatDoor
namespace Go.Proofs
open YtfnopgdcaanaiaaGreatDoor Tryz
open Go.Shelf
def Tryz.sortSpan_ren:Go.Shelf.Ren:=⟨fun | 6=>121 | 15=>186 | 14=>205 | 28=>259 | 29=>260 | 20=>273 | 21=>274 | 22=>275 | 23=>276 | 24=>277 | 25=>278 | 26=>279 | 27=>280 | 46=>335 | 47=>322 | 48=>323 | 49=>336 | 50=>337 | 57=>359 | n=>n,fun | 22=>55 | 24=>110 | 25=>189 | 3=>3 | 39=>249 | 0=>0 | 53=>92 | 55=>48 | 4=>4 | 46=>305 | 45=>304 | 50=>214 | 5=>5 | 9=>9 | 66=>351 | 70=>355 | 76=>376 | 77=>377 | n=>n,fun | n=>n⟩
theorem Tryz.sortSpan:Go.Proofs.SlLaysF0.n6 Tryz.prog Tryz.sortSpan_ren:=by
 constructor
 case f6=>exact⟨f121.name,by decide,func121.trans (agZ)⟩
 case f14=>exact⟨f205.name,by decide,func205.trans (agZ)⟩
 case f15=>exact func186.trans (agZ)
 case f20=>exact⟨f273.name,by decide,func273.trans (agZ)⟩
 case f21=>exact⟨f274.name,by decide,func274.trans (agZ)⟩
 case f22=>exact⟨f275.name,by decide,func275.trans (agZ)⟩
 case f23=>exact⟨f276.name,by decide,func276.trans (agZ)⟩
 case f24=>exact⟨f277.name,by decide,func277.trans (agZ)⟩
 case f25=>exact⟨f278.name,by decide,func278.trans (agZ)⟩
 case f26=>exact⟨f279.name,by decide,func279.trans (agZ)⟩
 case f27=>exact⟨f280.name,by decide,func280.trans (agZ)⟩
 case f28=>exact func259.trans (agZ)
 case f29=>exact func260.trans (agZ)
 case f46=>exact⟨f335.name,by decide,func335.trans (agZ)⟩
 case f47=>exact func322.trans (agZ)
 case f48=>exact func323.trans (agZ)
 case f49=>exact⟨f336.name,by decide,func336.trans (agZ)⟩
 case f50=>exact⟨f337.name,by decide,func337.trans (agZ)⟩
 case f57=>exact⟨f359.name,by decide,func359.trans (agZ)⟩
 all_goals first | kernel_rfl | (intro _;kernel_rfl) | (intro _;rfl)
end Go.Proofs
