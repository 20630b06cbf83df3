/- Parts of the proof. No condition. -/
import Derived.WideMake
import Derived.Deep.DeepCutAuto
import Derived.Test.YtfnopgdcaanaiaaGreatDoorW02
import Derived.Test.YtfnopgdcaanaiaaGreatDoorW03
import Derived.Test.YtfnopgdcaanaiaaGreatDoorW04
set_option linter.all false
set_option maxRecDepth 100000
set_option maxHeartbeats 8000000
namespace Go.Proofs.YtfnopgdcaanaiaaGreatDoor
open Go.Proofs.Tryz
section
open Go.RowKit
theorem aoX(l:List UInt8):Np.aU (l ++ [46])=Np.aU l ++ [[]]:=Np.BY l []
theorem aoY:∀ (l:List UInt8) (c:UInt8) (pre:List (List UInt8)) (x:List UInt8),c≠46->Np.aU l=pre ++ [x]->Np.aU (l ++ [c])=pre ++ [x ++ [c]]:=by
 intro l
 induction l with
 | nil=>
  intro c pre x hc h;have h2:([[]]:List (List UInt8))=pre ++ [x]:=h
  cases pre with
  | nil=>simp at h2;subst h2;simp[Np.aU,hc]
  | cons a pre=>simp at h2
 | cons a r ih=>
  intro c pre x hc h;rw[List.cons_append];rw[Np.aU] at h |-;by_cases ha:a=46
  ·rw[Qb ha] at h |-
   cases pre with
   | nil=>simp at h;exact absurd h.2 (Np.qW r)
   | cons b pre=>
    simp only[List.cons_append,List.cons.injEq] at h;rw[ih c pre x hc h.2,<-h.1];rfl
  ·rw[Qc ha] at h |-;have hne:=Np.qW r
   cases hr:Np.aU r with
   | nil=>exact absurd hr hne
   | cons y ys=>
    rw[hr] at h;simp only at h
    cases pre with
    | nil=>
     simp only[List.nil_append,List.cons.injEq] at h;obtain⟨rfl,rfl⟩:=h;rw[ih c [] y hc (by rw[hr];rfl)];rfl
    | cons b pre=>
     simp only[List.cons_append,List.cons.injEq] at h;obtain⟨rfl,rfl⟩:=h;rw[ih c (y::pre) x hc (by rw[hr];rfl)];rfl
def RSt(_:World)(_:Nat)(e:List Value)(x:List UInt8):Prop:=e = [av x]
theorem EC:dL RSt:=λ_ _ _ _ _ h _=>h
theorem PU:dZ RSt:=λ_ _ _ _ _ h _=>h
def wR{α:Type}(R:aFJ α)(sz:Nat)(w:World)(xs:List α)(e:Ending)(w':World):Prop:=∃ v,e = .returned v/\SlR R sz w' w'.heap.size v xs/\Below w.heap.size w w'
theorem ZC{W:World}{base:Nat}{e:TypeId}{g cap n:Nat}{xs:List Value}(h:W.ownsRow base e 1 (.slice (some ⟨g,0,none⟩) n cap) n xs)(j:Nat)(hj:j<n)(u:Value) :
 W.cell? ⟨g,j,none⟩=xs[j]?/\W.frozen? ⟨g,j,none⟩=false/\g<W.heap.size/\base<=g/\(W.setCell ⟨g,j,none⟩ u).ownsRow base e 1 (.slice (some ⟨g,0,none⟩) n cap) n (xs.set j u):=by
 obtain⟨h1,h2⟩:=h;rcases h2 with ⟨h2,_⟩ | ⟨g',cap',cur,h2,hb,hg,hn,hm,hs,ht⟩
 ·cases h2
 ·simp only[Value.slice.injEq,Option.some.injEq,Addr.mk.injEq,and_true,true_and] at h2;obtain⟨rfl,rfl⟩:=h2;have aa:=(eQ.1 hg).1;refine⟨?_,?_,aa,hb,by simpa using h1,.inr ⟨g,cap,cur.setIfInBounds j u,rfl,hb,?_,hn,hm,by simpa using hs,?_⟩⟩
  ·rw[<-ht];simp only[World.cell?,hg,Option.isSome_none,Bool.false_eq_true,if_false,List.getElem?_take];rw[Qb (by omega)];simp
  ·simp[World.frozen?,hg]
  ·simp only[World.setCell,Array.getElem?_modify,if_true,hg];simp
  ·rw[<-ht,Array.toList_setIfInBounds,List.take_set]
theorem Tryz.infoStr:(prog.info? 9).map (λi=>(i.zero,i.size,i.bytes))=some (some (.string ⟨#[]⟩),1,16):=by kernel_rfl
def Td(s:ByteArray)(w:World)(v i:Value)(wr:World):Prop:=
 ∃ (k:Nat) (pre:List (List UInt8)) (x:List UInt8),k<=s.size/\i = .int .i64 k/\Np.aU (s.data.toList.take k)=pre ++ [x]/\pre.length<=k/\wr.ownsRow w.heap.size 9 1 v (pre.length+1) (pre.map av ++ [av x])/\Below w.heap.size w wr
theorem aqQ(x:List UInt8)(s:ByteArray)(k:Nat)(hk:k<s.size):Value.string ((⟨x.toArray⟩:ByteArray)++s.extract k (k+1))=av (x ++ [s[k]]):=by
 show Value.string _=Value.string _;congr 1;apply mR
 have:(s.extract k (k+1)).data.toList = [s[k]]:=by
  rw[GK,JG s k hk,List.drop_append_of_le_length (by rw[List.length_take,aX];omega),List.drop_of_length_le (by rw[List.length_take,aX];omega),List.nil_append]
 rw[ByteArray.data_append,Array.toList_append,this]
theorem PK(s:ByteArray)(hs:s.size<=1000000)(w:World):Calls prog 103 #[.string s] w (wR RSt 1 w (Np.aU s.data.toList)):=by
 obtain⟨i0,hi,db,bk,aK⟩:=info_parts Tryz.infoStr;go_enter func103,ntmps103;go_wp2;go_loopw [3,4] (λv i wr=>Td s w v i wr) (λ_ i _=>s.size - (intOf i).toNat)
 case atStart=>
  refine⟨0,[],[],jQ _,rfl,rfl,bQ _,⟨rfl,.inr ⟨w.heap.size,1,#[.string ⟨#[]⟩],rfl,bQ _,heap_alloc_new _ _,by simp,by simp[maxLen],rfl,rfl⟩⟩,(vQ _ _).alloc (bQ _) _⟩
 case round=>
  obtain⟨k,pre,x,hk,rfl,DY,tB,hown,hB⟩:=hrel;obtain⟨g,cap,rfl⟩:=ownsRow_succ hown;have an:=hB.size;have HB:=jq hB;have HO:=jq hown;have HS:=jq DY;clear hB hown DY;by_cases aa:k<s.size
  ·have hb:=yG s[k];have Ok:=JG s k aa;have HT:=jq Ok;clear Ok;by_cases Ag:(s[k].toNat:Int)=46
   ·have he:((s[k].toNat:Int) == 46)=true:=by simp[Ag]
    have hc:s[k]=46:=by
     apply UInt8.toNat_inj.1
     have:s[k].toNat=46:=by omega
     rw[this];rfl
    have HC:=jq hc;clear hc Ag;go_wp2_with (at_builtin;refine wpList_append_own_at _ rfl _ _ 116 rfl w.heap.size 9 i0 (.string ⟨#[]⟩) 1 16 underlying116 hi db bk aK rfl (by decide) _ _ _ rfl (HO.out.alloc _) ⟨wr.heap.size,0,none⟩ 1 1 [.string ⟨#[]⟩] rfl rfl (cell_one_new _ _ _) (by simp[Value.oneCell']) (by unfold maxLen;omega) (by omega) (by simp;omega) ?_;intro v1 w1 NY tg _ VP;have H1:=jq (And.intro NY tg);clear NY tg VP);go_roundw
    case rel=>
     obtain⟨o1,g1⟩:=H1.out;have im:=(HO.out.lt g rfl).1;refine⟨k+1,pre ++ [x],[],by omega,by go_num,?_,by simp;omega,?_,?_⟩
     ·rw[HT.out,HC.out,aoX,HS.out]
     ·simpa using o1
     ·exact (HB.out.alloc (by omega) _).grown g1 (by simp;omega) (λj hj=>by have e:g=j:=Option.some.inj hj;omega)
    case measure=>simp[intOf] <;> omega
   ·have he:((s[k].toNat:Int) == 46)=false:=by simp[Ag]
    have hc:s[k]≠46:=λe=>Ag (by rw[e];rfl);have HC:=jq hc;clear hc Ag;obtain⟨q1,q2,q3,q4,q5⟩:=ZC HO.out pre.length (by omega) (av (x ++ [s[k]]));have hcell:wr.cell? ⟨g,pre.length,none⟩=some (av x):=by rw[q1];simp
    have FZ:=jq q5;have oJ:=aqQ x s k aa;clear q1 q5;have tM:x.length<=k:=by
     have h1:=Np.JA (l:=s.data.toList.take k) (y:=x) (by rw[HS.out];simp);rw[List.length_take] at h1;omega
    have gI:¬ 9223372036854775807<x.length+(min (k+1) s.size - k):=by omega
    have ah:IntKind.i64.wrap (pre.length:Int)=pre.length:=IntWalk.i64_in _ (by omega);have aj:IntKind.i64.wrap ((k:Int)+1)=k+1:=IntWalk.i64_in _ (by omega);have yh:(0:Int)<=(pre.length:Int):=by omega
    have hp1:(pre.length:Int)<(pre.length:Int)+1:=by omega
    have bV:(0:Int)<=(k:Int):=by omega
    have bT:(k:Int)+1<=(s.size:Int):=by omega
    have jK:((k:Int)+1).toNat=k+1:=by omega
    have mo:(0:Int)<=(k:Int)+1:=by omega
    have jL:(k:Int)<=(k:Int)+1:=by omega
    go_wp2_with fail;refine QY 17 (by kernel_rfl) (by kernel_rfl) ?_;simp only[List.take_succ_cons,List.take_zero,List.drop_succ_cons,List.drop_zero]
    iterate 17 still_step
    refine wpStill_nil ?_;go_wp2_with fail;go_roundw
    case rel=>
     refine⟨k+1,pre,x ++ [s[k]],by omega,by go_num,?_,by omega,?_,?_⟩
     ·rw[HT.out];exact aoY _ _ _ _ HC.out HS.out
     ·have h5:(wr.setCell ⟨g,pre.length,none⟩ (av (x ++ [s[k]]))).ownsRow w.heap.size 9 1 (.slice (some ⟨g,0,none⟩) (pre.length+1) cap) (pre.length+1) (pre.map av ++ [av (x ++ [s[k]])]):=by
       have:=FZ.out
       simpa using this
      exact h5
     ·exact (HB.out.setCell (p:=⟨g,pre.length,none⟩) q4 _).drew
    case measure=>simp[intOf] <;> omega
  ·go_wp2_with fail;go_ret;refine⟨_,rfl,?_,HB.out⟩;have bG:Np.aU s.data.toList=pre ++ [x]:=by have:=HS.out;rwa [EH s k (by omega)] at this
   rw[bG];refine Jw (sz:=1) (e:=9) (base:=w.heap.size) (λx=>[av x]) (λ_ _=>rfl) ?_ (by simp;omega) (λ_ _=>rfl)
   have:=HO.out
   simpa [O0] using this
theorem anX{α:Type}{R:aFJ α}{sz:Nat}(w:World)(B:Nat):SlR R sz w B (.slice none 0 0) []:=⟨none,0,rfl,by simp,by simp,λi x h=>by simp at h⟩
theorem BW(s:ByteArray)(hs:s.size<=1000000)(w:World):Calls prog 233 #[.string s] w (wR RSt 1 w (Np.eG s.data.toList)):=by
 by_cases h:s.data.toList = [46]
 ·have he:(s.toList == [46])=true:=by rw[dQ,h];rfl
  have hp:Np.eG s.data.toList = []:=by rw[Np.eG,Qb h]
  rw[hp];clear h hp;go_enter func233,ntmps233;go_wp2_with fail;go_ret;exact⟨_,rfl,anX _ _,vQ _ _⟩
 ·have he:(s.toList == [46])=false:=by rw[dQ];simpa using h
  have hp:Np.eG s.data.toList=Np.aU s.data.toList:=by rw[Np.eG,Qc h]
  rw[hp];clear h hp;go_enter func233,ntmps233;go_wp2_with fail;refine (PK s hs _).mono ?_;rintro e w1 ⟨v,rfl,hv,hb⟩;have HV:=jq (And.intro hv hb);clear hv hb;go_wp2_with fail;go_ret;exact⟨_,rfl,HV.out⟩
theorem BZ{w:World}{B:Nat}{v:Value}{xs:List (List UInt8)}(h:SlR RSt 1 w B v xs){k:Nat}{x:List UInt8}(hx:xs[k]?=some x):∃ b o c,v = .slice (some ⟨b,o,none⟩) xs.length c/\b<B/\xs.length<=c/\w.cell? ⟨b,o+k,none⟩=some (av x):=by
 obtain⟨A,c,rfl,hc,_,he⟩:=h;obtain⟨b,o,e,rfl,hb,_,hce,rfl⟩:=he k x hx;exact⟨b,o,c,rfl,hb,hc,by have:=hce 0 _ rfl;simpa using this⟩
end
section
open Go.RowKit Go.MapKept
def dj(r:Nat)(kvs:List (List UInt8×Value))(w:World):Prop:=∃ es c,w.heap[r]?=some (.map es c)/\es.toList.map (λe=>(e.key,e.val))=kvs.map λp=>(av p.1,p.2)
theorem dj.lt{r:Nat}{kvs:List (List UInt8×Value)}{w:World}(h:dj r kvs w):r<w.heap.size:=by
 obtain⟨es,c,h,_⟩:=h;exact (eQ.1 h).1
theorem dj.keep{r:Nat}{kvs:List (List UInt8×Value)}{w w':World}{n:Nat}(h:dj r kvs w)(hb:Below n w w')(hn:r<n):dj r kvs w':=by
 obtain⟨es,c,h,h2⟩:=h;exact⟨es,c,(hb.block r hn).trans h,h2⟩
theorem dj.made(w:World):dj w.heap.size [] (w.alloc (.map #[] 0)):=⟨#[],0,heap_alloc_new _ _,rfl⟩
theorem Qu(x y:List UInt8):((⟨x.toArray⟩:ByteArray) == ⟨y.toArray⟩)=(x == y):=by
 have h:((⟨x.toArray⟩:ByteArray) == ⟨y.toArray⟩)=(x.toArray == y.toArray):=rfl;rw[h,List.beq_toArray]
theorem C6(x:List UInt8):∀ (es:List MapEntry) (kvs:List (List UInt8×Value)) (i:Nat),es.map (λe=>(e.key,e.val))=kvs.map (λp=>(av p.1,p.2))->
 (∀ v,kvs.lookup x=some v->∃ j,Instr.findNow .string (av x) es i=some (some (j,v)))/\(kvs.lookup x=none->Instr.findNow .string (av x) es i=some none):=by
 intro es
 induction es with
 | nil=>
  intro kvs i h
  cases kvs with
  | nil=>exact⟨λv hv=>by simp at hv,λ_=>rfl⟩
  | cons=>simp at h
 | cons e es ih=>
  intro kvs i h
  cases kvs with
  | nil=>simp at h
  | cons p kvs=>
   obtain⟨y,u⟩:=p;simp only[List.map_cons,List.cons.injEq,Prod.mk.injEq] at h;obtain⟨⟨h1,h2⟩,h3⟩:=h;have hs:Instr.sameNow .string (av x) e.key=some (x == y):=by rw[h1];simp only[Instr.sameNow];rw[Qu]
   by_cases cB:x=y
   ·subst cB;have hb:(x == x)=true:=by simp
    rw[hb] at hs;refine⟨λv hv=>⟨i,?_⟩,λhv=>?_⟩
    ·rw[List.lookup_cons_self] at hv;simp only[Instr.findNow,hs]
     cases hv
     rw[h2]
    ·rw[List.lookup_cons_self] at hv;cases hv
   ·have hb:(x == y)=false:=by simpa using cB
    rw[hb] at hs;have hl:((y,u)::kvs).lookup x=kvs.lookup x:=by rw[List.lookup_cons,hb]
    rw[hl];obtain⟨i1,i2⟩:=ih kvs (i+1) h3;refine⟨λv hv=>?_,λhv=>?_⟩
    ·obtain⟨j,hj⟩:=i1 v hv;exact⟨j,by simp only[Instr.findNow,hs];exact hj⟩
    ·simp only[Instr.findNow,hs];exact i2 hv
section
variable {P:Program} {ops:Array Oper} {rest:List Oper} {o:Oper} {a:Act} {Q:Exit->Act->World->Prop}
theorem QU(w:World)(hg:o.guard=none)(m x v:Operand)(t:TypeId)(jO:o.op=Op.mapUpdate t m x v)(kt et:TypeId)(ht:P.underlying t=some (.map kt et))(hk:P.underlying kt=some .string)
 (r:Nat) (kvs:List (List UInt8×Value)) (hm:a.eval m = .map (some r)) (hr:dj r kvs w) (key:List UInt8) (hx:a.eval x=av key) (val:Value) (hv:a.eval v=val) (gI:kvs.lookup key=none)
 (hK:∀ w',dj r (kvs ++ [(key,val)]) w'->Turned r w w'->wpList P ops Q rest (a.put o.dst undef) w'):wpList P ops Q (o::rest) a w:=by
 obtain⟨es,c,hr,he⟩:=hr;have hf:=(C6 key es.toList kvs 0 he).2 gI;refine wpList_plain hg λK' hK'=>?_;have hc:(Instr.checkKey false 10000 kt (av key)).run P w = .ok () w:=MapKept.run_checkKey (k:=av key) hk (by simp[MapKept.IsKey]) false 9999;have dz:(Instr.mapUpdate t (.map (some r)) (av key) val).run P w = .ok () { w with heap:=w.heap.setIfInBounds r (.map (es.push { key:=av key,val:=val,born:=c }) (c+1)) }:=by
  simp[Instr.mapUpdate,run_underlying ht,MapKept.run_getObj_map hr,hc,MapKept.run_findKey hk hf,MapKept.run_setObj_map _ hr,Result.andThen]
 unfold Oper.wp;simp[execOp,jO,hm,hx,hv,dz,Result.andThen];have hl:r<w.heap.size:=(eQ.1 hr).1;refine hK' _ _ (hK _ ⟨_,_,by simp[hl];exact⟨rfl,rfl⟩,by simp[he]⟩ ⟨rfl,rfl,rfl,by simp,λi hi=>by simp[Ne.symm hi]⟩)
theorem ED(w:World)(t kt et:TypeId)(ht:P.underlying t=some (.map kt et))(hk:P.underlying kt=some .string)(r:Nat)(kvs:List (List UInt8×Value))(hr:dj r kvs w)(key:List UInt8)(z:Value)(hz:(zeroValue et).run P w = .ok z w) :
 (Instr.lookup t (.map (some r)) (av key) false).run P w = .ok ((kvs.lookup key).getD z) w:=by
 obtain⟨es,c,hr,he⟩:=hr;have hf:=C6 key es.toList kvs 0 he;have hc:∀ b,(Instr.checkKey b 10000 kt (av key)).run P w = .ok () w:=λb=>MapKept.run_checkKey (k:=av key) hk (by simp[MapKept.IsKey]) b 9999
 cases hl:kvs.lookup key with
 | none=>simp[Instr.lookup,run_underlying ht,MapKept.run_getObj_map hr,hc,MapKept.run_findKey hk (hf.2 hl),Result.andThen,hz]
 | some v=>
  obtain⟨j,hj⟩:=hf.1 v hl;simp[Instr.lookup,run_underlying ht,MapKept.run_getObj_map hr,hc,MapKept.run_findKey hk hj,Result.andThen]
end
end
section
open Go.RowKit
theorem Et(x:List UInt8)(hx:x.length<=140737488355328)(w:World):Calls prog 104 #[av x] w (aFZ w (.bool (Np.cC x))):=by
 have:=afX ⟨x.toArray⟩ (by rw[<-aX];simpa using hx) w
 simpa using this
def Ej(l:List (List UInt8))(j:Nat):Prop:=∃ x,l[j]?=some x/\(Np.cC x=true\/(j=0/\x = [42]))
theorem YJ{l:List (List UInt8)}(h:∀ j,j<l.length->Ej l j):Np.tR l=true:=by
 cases l with
 | nil=>rfl
 | cons a t=>
  unfold Np.tR;rw[Bool.and_eq_true];constructor
  ·obtain⟨x,hx,ho⟩:=h 0 (by simp);simp at hx;subst hx;rcases ho with ho | ⟨_,ho⟩ <;> simp[ho]
  ·rw[List.all_eq_true];intro y hy;obtain⟨j,hj,rfl⟩:=nQ.1 hy;obtain⟨x,hx,ho⟩:=h (j+1) (by simpa using hj);simp only[List.getElem?_cons_succ,aQ hj,Option.some.injEq] at hx;rcases ho with ho | ⟨h0,_⟩
   ·rw[hx];exact ho
   ·omega
theorem OV{l:List (List UInt8)}{j:Nat}{x:List UInt8}(hx:l[j]?=some x)(h1:Np.cC x=false)(h2:j=0->x≠[42]):Np.tR l=false:=by
 cases l with
 | nil=>simp at hx
 | cons a t=>
  unfold Np.tR
  cases j with
  | zero=>simp at hx;subst hx;simp[h1,h2 rfl]
  | succ j=>
   have:t.all Np.cC=false:=by
    rw[List.all_eq_false];exact⟨x,gQ (by simpa using hx),by simp[h1]⟩
   show ((Np.cC a||a == [42])&&t.all Np.cC)=false;rw[this,Bool.and_false]
theorem JB:∀ l:List UInt8,(Np.aU l).length<=l.length+1:=by
 intro l
 induction l with
 | nil=>simp[Np.aU]
 | cons c r ih=>
  rw[Np.aU];split
  ·simp;omega
  ·split
   ·rename_i x xs hx;rw[hx] at ih;simp at ih |-;omega
   ·simp
theorem tW(s:ByteArray)(hs:s.size<=140737488355328)(w:World) :
 Calls prog 50 #[.string s] w (aFQ w.heap.size w (.bool (Np.aA s.data.toList))):=by
 rw[Np.QM];by_cases h:s.data.toList = [46]
 ·have he:(s.toList == [46])=true:=by rw[dQ,h];rfl
  rw[Qb h];clear h;go_enter func50,ntmps50;go_wp2_with fail;go_ret;exact⟨rfl,vQ _ _⟩
 ·have he:(s.toList == [46])=false:=by rw[dQ];simpa using h
  rw[Qc h];clear h;by_cases Ai:60<s.size
  ·rw[Qb (by rw[aX];exact Ai)];have h6:60<(s.size:Int):=by omega
   go_enter func50,ntmps50;go_wp2_with fail;go_ret;exact⟨rfl,vQ _ _⟩
  ·rw[Qc (by rw[aX];exact Ai)];have h6:(s.size:Int)<=60:=by omega
   have hlen:=JB s.data.toList;have vE:∀ y∈Np.aU s.data.toList,y.length<=60:=λy hy=>by have:=Np.JA hy;rw[aX] at this;omega
   rw[aX] at hlen;generalize hL:Np.aU s.data.toList=l at *;have HM:=jq vE;have uu:=jq hL;clear vE hL;go_enter func50,ntmps50;go_wp2_with fail;refine (PK s (by omega) _).mono ?_;rw[uu.out];rintro e w1 ⟨v,rfl,hv,hb⟩;have HV:=jq hv;have HB:=jq hb;obtain⟨A,c,rfl,hc,_,_⟩:=hv;clear hb;go_wp2_with fail;go_loop [4] (λi=>∃ k:Nat,k<=l.length/\i = .int .i64 k/\Hid (∀ j,j<k->Ej l j)) (λi=>l.length - (intOf i).toNat)
   case atStart=>exact⟨0,jQ _,rfl,jq (λj h=>by omega)⟩
   case round=>
    obtain⟨k,hk,rfl,HA⟩:=hrel;by_cases aa:k<l.length
    ·obtain⟨b,o,c',hA,_,_,hcell⟩:=BZ HV.out (aQ aa)
     cases hA
     have hx:=HM.out _ (List.getElem_mem aa);have ac:l[k]?=some l[k]:=aQ aa;generalize l[k]=x at *;have HG:=jq ac;clear ac;have Bn:Ej l k->∀ j,j<k+1->Ej l j:=λh j hj=>by
      by_cases e:j=k
      ·subst e;exact h
      ·exact HA.out j (by omega)
     have HX:=jq Bn;clear Bn
     cases hl:Np.cC x with
     | true=>
      have HL:=jq hl;go_wp2_with (go_at_call 104;refine (Et _ (by omega) _).mono ?_;rintro e w' ⟨rfl,rfl⟩);go_round
      case rel=>exact⟨k+1,by omega,by go_num,jq (HX.out ⟨_,HG.out,.inl HL.out⟩)⟩
      case measure=>simp[intOf] <;> omega
     | false=>
      have HL:=jq hl;by_cases bV:k=0
      ·subst bV;simp only[Nat.add_zero] at hcell;by_cases GS:x = [42]
       ·subst GS;go_wp2_with (go_at_call 104;refine (Et _ (by simp) _).mono ?_;rintro e w' ⟨rfl,rfl⟩);go_round
        case rel=>exact⟨1,by omega,by go_num,jq (HX.out ⟨_,HG.out,.inr ⟨rfl,rfl⟩⟩)⟩
        case measure=>simp[intOf] <;> omega
       ·have hne:(x == [42])=false:=by simpa using GS
        go_wp2_with (go_at_call 104;refine (Et _ (by omega) _).mono ?_;rintro e w' ⟨rfl,rfl⟩);go_ret;exact⟨ag (by rw[OV HG.out HL.out (λ_=>GS)];rfl),HB.out⟩
      ·have hkp:(0:Int)<k:=by omega
       go_wp2_with (go_at_call 104;refine (Et _ (by omega) _).mono ?_;rintro e w' ⟨rfl,rfl⟩);go_ret;exact⟨ag (by rw[OV HG.out HL.out (λe=>absurd e bV)];rfl),HB.out⟩
    ·have dO:Np.tR l=true:=YJ (λj hj=>HA.out j (by omega));have bl:=jq dO;clear dO;go_wp2_with fail;go_ret;exact⟨ag (by rw[bl.out,Bool.true_and,Bool.eq_iff_iff];simp;omega),HB.out⟩
theorem BV(s z:ByteArray)(hs:s.size<=1000)(hz:z.size<=1000)(w:World) :
 Calls prog 222 #[.string s,.string z] w (aFQ w.heap.size w (.bool (Np.inL (Np.eG s.data.toList) (Np.eG z.data.toList)))):=by
 have ve:∀ t:ByteArray,t.size<=1000->(Np.eG t.data.toList).length<=1001:=λt ht=>by
  unfold Np.eG;split
  ·simp
  ·have:=JB t.data.toList;rw[aX] at this;omega
 have bN:=ve s hs;have eK:=ve z hz;clear ve;generalize ii:Np.eG s.data.toList=l at *;generalize lI:Np.eG z.data.toList=m at *;have mY:=jq ii;have xi:=jq lI;clear ii lI;go_enter func222,ntmps222;go_wp2_with fail;refine (BW s (by omega) _).mono ?_;rw[mY.out];rintro e w1 ⟨v,rfl,hv,hb⟩;have HV:=jq hv;have HB:=jq hb;obtain⟨A,c,rfl,hc,_,_⟩:=hv;clear hb;go_wp2_with fail;refine (BW z (by omega) _).mono ?_;rw[xi.out];rintro e w2 ⟨v2,rfl,ll,ae⟩;have fm:=jq ((HV.out.keep EC ae).more PU ae.size);have ib:=jq ll;have ai:=jq (HB.out.trans (ae.mono HB.out.size));obtain⟨A2,c2,rfl,fF,_,_⟩:=ll;clear ae HV;by_cases hlen:m.length<=l.length
 ·have gH:(m.length:Int)<=(l.length:Int):=by omega
  go_wp2_with fail;go_loopw [7] (λi wr=>∃ k:Nat,k<=m.length/\i = .int .i64 k/\Hid (∀ j,j<k->l[l.length - m.length+j]?=m[j]?)/\Hid (Below w2.heap.size w2 wr)) (λi _=>m.length - (intOf i).toNat)
  case atStart=>exact⟨0,jQ _,rfl,jq (λj h=>by omega),jq (vQ _ _)⟩
  case round=>
   obtain⟨k,hk,rfl,HA,HW⟩:=hrel;by_cases aa:k<m.length
   ·obtain⟨b,o,c',hA,_,_,hcell⟩:=BZ (fm.out.keep EC HW.out) (aQ (show l.length - m.length+k<l.length by omega))
    cases hA
    obtain⟨b2,o2,c2',py,_,_,V6⟩:=BZ (ib.out.keep EC HW.out) (aQ aa)
    cases py
    have AV:l[l.length - m.length+k]?=some l[l.length - m.length+k]:=aQ _;have AW:m[k]?=some m[k]:=aQ aa;generalize l[l.length - m.length+k]=x at *;generalize m[k]=y at *;have xd:=jq AV;have xe:=jq AW;clear AV AW;have ah:IntKind.i64.wrap ((l.length:Int) - (m.length:Int))=(l.length:Int) - m.length:=IntWalk.i64_in _ (by omega);have aj:IntKind.i64.wrap ((l.length:Int) - (m.length:Int)+k)=(l.length:Int) - m.length+k:=IntWalk.i64_in _ (by omega);have e1:(0:Int)<=(l.length:Int) - m.length+k:=by omega
    have e2:(l.length:Int) - m.length+k<l.length:=by omega
    have e3:((l.length:Int) - m.length+k).toNat=l.length - m.length+k:=by omega
    have e4:(0:Int)<=k:=by omega
    have e5:(k:Int)<m.length:=by omega
    by_cases cB:x=y
    ·have hne:(!x == y)=false:=by simp[cB]
     have Gq:=jq cB;clear cB;go_wp2_with fail;go_quiet (fail);go_wp2_with fail;go_roundw
     case rel=>
      refine⟨k+1,by omega,by go_num,jq (λj hj=>?_),jq (below_drewN HW.out _)⟩;by_cases e:j=k
      ·subst e;rw[xd.out,xe.out,Gq.out]
      ·exact HA.out j (by omega)
     case measure=>simp[intOf] <;> omega
    ·have hne:(!x == y)=true:=by simp[cB]
     have Gq:=jq cB;clear cB;go_wp2_with fail;go_quiet (fail);go_wp2_with fail;go_ret;refine⟨ag ?_,ai.out.trans ((below_drewN HW.out _).mono ai.out.size)⟩
     symm
     unfold Np.inL;rw[uQ hlen,Bool.true_and,beq_eq_false_iff_ne];intro h;have h1:=Qd (·[k]?) h;simp only[List.getElem?_drop] at h1;rw[xd.out,xe.out] at h1;exact Gq.out (Option.some.inj h1)
   ·go_wp2_with fail;go_ret;refine⟨ag ?_,ai.out.trans (HW.out.mono ai.out.size)⟩
    symm
    unfold Np.inL;rw[uQ hlen,Bool.true_and,beq_iff_eq];apply List.ext_getElem?;intro j;rw[List.getElem?_drop];by_cases hj:j<m.length
    ·exact HA.out j (by omega)
    ·rw[List.getElem?_eq_none (by omega),List.getElem?_eq_none (by omega)]
 ·have gH:(l.length:Int)<(m.length:Int):=by omega
  go_wp2_with fail;go_ret;exact⟨ag (by unfold Np.inL;rw[tQ hlen];rfl),ai.out⟩
theorem Ew{l:List (List UInt8)}{k:Nat}(h:l.length<=k):l.reverse.drop k = []:=List.drop_eq_nil_of_le (by simpa using h)
theorem PM{l:List (List UInt8)}{k:Nat}(h:k<l.length):∃ x r,l.reverse.drop k=x::r:=⟨_,_,sQ (by simpa using h)⟩
theorem Jo(s z:ByteArray)(hs:s.size<=1000)(hz:z.size<=1000)(w:World) :
 Calls prog 164 #[.string s,.string z] w (aFQ w.heap.size w (.int .i64 (Np.aH s.data.toList z.data.toList))):=by
 rw[Np.zZ,<-Np.BQ,<-Np.BQ];have ve:∀ t:ByteArray,t.size<=1000->(Np.eG t.data.toList).length<=1001:=λt ht=>by
  unfold Np.eG;split
  ·simp
  ·have:=JB t.data.toList;rw[aX] at this;omega
 have bN:=ve s hs;have eK:=ve z hz;clear ve;generalize ii:Np.eG s.data.toList=l at *;generalize lI:Np.eG z.data.toList=m at *;have mY:=jq ii;have xi:=jq lI;clear ii lI;go_enter func164,ntmps164;go_wp2_with fail;refine (BW s (by omega) _).mono ?_;rw[mY.out];rintro e w1 ⟨v,rfl,hv,hb⟩;have HV:=jq hv;have HB:=jq hb;obtain⟨A,c,rfl,hc,_,_⟩:=hv;clear hb;go_wp2_with fail;refine (BW z (by omega) _).mono ?_;rw[xi.out];rintro e w2 ⟨v2,rfl,ll,ae⟩;have fm:=jq ((HV.out.keep EC ae).more PU ae.size);have ib:=jq ll;have ai:=jq (HB.out.trans (ae.mono HB.out.size));obtain⟨A2,c2,rfl,fF,_,_⟩:=ll;clear ae HV;go_wp2_with fail;go_loop [7] (λi=>∃ k:Nat,k<=l.length/\k<=m.length/\i = .int .i64 ((k:Int)+1)/\Hid (Np.cK l.reverse m.reverse=Np.cK (l.reverse.drop k) (m.reverse.drop k))) (λi=>l.length+1 - (intOf i).toNat)
 case atStart=>exact⟨0,jQ _,jQ _,rfl,jq rfl⟩
 case round=>
  obtain⟨k,bT,jK,rfl,HA⟩:=hrel;by_cases eh:k<l.length
  ·by_cases tn:k<m.length
   ·obtain⟨b,o,c',hA,_,_,hcell⟩:=BZ fm.out (aQ (show l.length - (k+1)<l.length by omega))
    cases hA
    obtain⟨b2,o2,c2',py,_,_,V6⟩:=BZ ib.out (aQ (show m.length - (k+1)<m.length by omega))
    cases py
    have AV:l.reverse.drop k=l[l.length - (k+1)]::l.reverse.drop (k+1):=by
     rw[sQ (by simpa using eh),List.getElem_reverse];congr 2;omega
    have AW:m.reverse.drop k=m[m.length - (k+1)]::m.reverse.drop (k+1):=by
     rw[sQ (by simpa using tn),List.getElem_reverse];congr 2;omega
    generalize l[l.length - (k+1)]=x at *;generalize m[m.length - (k+1)]=y at *;have BB:Np.cK (l.reverse.drop k) (m.reverse.drop k)=if Np.cI x y≠0 then Np.cI x y else Np.cK (l.reverse.drop (k+1)) (m.reverse.drop (k+1)):=by rw[AV,AW,Np.cK]
    have HS:=jq BB;clear AV AW BB;have g1:((l.length:Int) - ((k:Int)+1)).toNat=l.length - (k+1):=by omega
    have g2:((m.length:Int) - ((k:Int)+1)).toNat=m.length - (k+1):=by omega
    have f1:(k:Int)+1<=l.length:=by omega
    have f2:(k:Int)+1<=m.length:=by omega
    rcases Np.xJ x y with ⟨h1,h2⟩ | ⟨h1,h2,hn,h3⟩ | ⟨h1,h2,hn,h3⟩
    ·have H2:=jq h2;clear h2;go_wp2_with fail;go_ret;exact⟨jr (by rw[HA.out,HS.out,H2.out];rfl),ai.out⟩
    ·have H3:=jq h3;have hne:(!x == y)=true:=by simp[hn]
     clear h3 hn;go_wp2_with fail;go_ret;exact⟨jr (by rw[HA.out,HS.out,H3.out];rfl),ai.out⟩
    ·have H3:=jq h3;have hne:(!x == y)=false:=by simp[hn]
     clear h3 hn;go_wp2_with fail;go_round
     case rel=>exact⟨k+1,by omega,by omega,by go_num,jq (by rw[HA.out,HS.out,H3.out];rfl)⟩
     case measure=>simp[intOf] <;> omega
   ·have hm:k=m.length:=by omega
    have cV:(m.length:Int)<(k:Int)+1:=by omega
    have bU:(k:Int)+1<=l.length:=by omega
    have eY:(m.length:Int)<(l.length:Int):=by omega
    have hv:Np.cK l.reverse m.reverse=1:=by
     obtain⟨x,r,e⟩:=PM eh;rw[HA.out,Ew (l:=m) (by omega),e];rfl
    have uE:=jq hv;clear hv hm;go_wp2_with fail;go_ret;exact⟨jr uE.out.symm,ai.out⟩
  ·have hl:k=l.length:=by omega
   have bU:(l.length:Int)<(k:Int)+1:=by omega
   by_cases tn:k<m.length
   ·have eY:(l.length:Int)<(m.length:Int):=by omega
    have hv:Np.cK l.reverse m.reverse = -1:=by
     obtain⟨x,r,e⟩:=PM tn;rw[HA.out,Ew (l:=l) (by omega),e];rfl
    have uE:=jq hv;clear hv hl;go_wp2_with fail;go_ret;exact⟨jr uE.out.symm,ai.out⟩
   ·have eY:(l.length:Int)<=(m.length:Int):=by omega
    have fI:(m.length:Int)<=(l.length:Int):=by omega
    have hv:Np.cK l.reverse m.reverse=0:=by
     rw[HA.out,Ew (l:=l) (by omega),Ew (l:=m) (by omega)];rfl
    have uE:=jq hv;clear hv hl;go_wp2_with fail;go_ret;exact⟨jr uE.out.symm,ai.out⟩
theorem Er(s z:ByteArray)(hs:s.size<=1000)(hz:z.size<=1000)(h1:Np.aA s.data.toList=true)(h2:Np.aA z.data.toList=true)(w:World) :
 Calls prog 304 #[.string s,.string z] w (aFQ w.heap.size w (.tuple #[.int .i64 (Np.aH s.data.toList z.data.toList),.int .i64 0])):=by
 have H1:=jq h1;have H2:=jq h2;clear h1 h2;go_enter func304,ntmps304;go_wp2_with fail;refine (tW s (by omega) _).mono ?_;rintro e w1 ⟨rfl,aB⟩;have aq:=jq aB;clear aB;rw[H1.out];go_wp2_with fail;refine (tW z (by omega) _).mono ?_;rintro e w2 ⟨rfl,ae⟩;have ai:=jq (aq.out.trans (ae.mono aq.out.size));clear ae;rw[H2.out];go_wp2_with fail;refine (Jo s z hs hz _).mono ?_;rintro e w3 ⟨rfl,al⟩;have am:=jq (ai.out.trans (al.mono ai.out.size));clear al;go_wp2_with fail;go_ret2;exact⟨rfl,am.out⟩
theorem aeK(k:Nat)(h1:1<=k)(h8:k<=8)(s:ByteArray)(hs:s.size<=140737488355328)(n m:Int)(w:World) :
 Calls prog 226 #[.int .i64 k,.agg #[.string s,.int .i64 n,.int .i64 m]] w
  λe w'=>e = .returned (.bool (Np.jt (Np.bY k) ⟨s.data.toList,n,m⟩))/\Below w.heap.size w w':=by
 have hk:k=1\/k=2\/k=3\/k=4\/k=5\/k=6\/k=7\/k=8:=by omega
 rcases hk with rfl | rfl | rfl | rfl | rfl | rfl | rfl | rfl
 all_goals
  go_enter func226,ntmps226;go_wp2_with (first
   | (go_at_call 223;refine (PL _ _ _ _).mono ?_;rintro e w' ⟨rfl,rfl⟩)
   | (go_at_call 50;refine (tW _ hs _).mono ?_;rintro e w' ⟨rfl,hb⟩;obtain⟨hc,hf⟩:=sW hb)
   | (go_at_call 225;refine (Eu _ hs _).mono ?_;rintro e w' ⟨rfl,rfl⟩)
   | (go_at_call 300;refine (ahQ _ hs _).mono ?_;rintro e w' ⟨rfl,rfl⟩))
  all_goals
   go_ret;go_light;refine⟨ag ?_,?_⟩
   ·simp_all [Np.jt,Np.wN,Np.bY,Np.rules,dQ] <;> (intros;first | omega | (rw[Bool.eq_iff_iff];simp;omega) | (rw[Bool.eq_iff_iff];simp;intros;omega) | (rw[Int.tmod_eq_emod_of_nonneg (by omega)];first | omega | (rw[Bool.eq_iff_iff];simp;omega)) | show False)
   ·first
     | exact (vQ _ w).alloc (bQ _) _
     | exact ((vQ _ w).alloc (bQ _) _).trans (hb.mono (by simp))
theorem PY(k:Nat)(h1:1<=k)(h8:k<=8):(Np.bY k).single=(decide ((k:Int)=3)||decide ((k:Int)=4)):=by
 have hk:k=1\/k=2\/k=3\/k=4\/k=5\/k=6\/k=7\/k=8:=by omega
 rcases hk with rfl | rfl | rfl | rfl | rfl | rfl | rfl | rfl <;> rfl
theorem PZ(k:Nat)(h1:1<=k)(h8:k<=8):(Np.bY k).wild=(decide ((k:Int)=1)||decide ((k:Int)=5)||decide ((k:Int)=8)):=by
 have hk:k=1\/k=2\/k=3\/k=4\/k=5\/k=6\/k=7\/k=8:=by omega
 rcases hk with rfl | rfl | rfl | rfl | rfl | rfl | rfl | rfl <;> rfl
theorem Es(k:Nat)(h1:1<=k)(h8:k<=8)(s:ByteArray)(hs:s.size<=140737488355328)(n m:Int)(w:World)(t:Bool)(ht:Np.jt (Np.bY k) ⟨s.data.toList,n,m⟩=t) :
 Calls prog 226 #[.int .i64 k,.agg #[.string s,.int .i64 n,.int .i64 m]] w (aFQ w.heap.size w (.bool t)):=by
 subst ht;exact aeK k h1 h8 s hs n m w
theorem PH(s t:ByteArray)(n1 m1 n2 m2:Int)(w:World)(r:Bool)(hr:decide (Np.qs ⟨s.data.toList,n1,m1⟩ ⟨t.data.toList,n2,m2⟩<0)=r) :
 Calls prog 227 #[.agg #[.string s,.int .i64 n1,.int .i64 m1],.agg #[.string t,.int .i64 n2,.int .i64 m2]] w (aFQ w.heap.size w (.bool r)):=by
 subst hr;exact afY s t n1 m1 n2 m2 w
def Tc(w1:World)(r:Np.Rule)(ds:List Np.Datum)(i:Value)(wr:World):Prop:=
 ∃ j:Nat,j<=ds.length/\i = .int .i64 j/\Below w1.heap.size w1 wr/\Np.jg r none ds=Np.jg r (ds.take j).getLast? (ds.drop j)
def wH(s:List UInt8)(ty life:Int)(n:Nat):Bool:=Np.aA s&&(decide (1<=ty)&&decide (ty<=8))&&(decide (0<=life)&&decide (life<=100000))&&(decide ((1:Int)<=n)&&decide ((n:Int)<=8))&&!((decide (ty=3)||decide (ty=4))&&decide ((1:Int)<n))
def Lz(w:World)(s:ByteArray)(ty life:Int)(sl:Value)(wx:World):Prop:=
 Below w.heap.size w wx/\w.heap.size<wx.heap.size/\wx.cell? ⟨w.heap.size,0,none⟩=some (.string s)/\wx.cell? ⟨w.heap.size,1,none⟩=some (.int .i64 ty)/\wx.cell? ⟨w.heap.size,2,none⟩=some (.int .i64 life)/\wx.cell? ⟨w.heap.size,3,none⟩=some sl
theorem Jp(s:ByteArray)(hs:s.size<=140737488355328)(ty life:Int)(v:Value)(ds:List Np.Datum)(w:World)(hd:SlR bK 3 w w.heap.size v ds) :
 Calls prog 150 #[.agg #[.string s,.int .i64 ty,.int .i64 life,v]] w
  λe w'=>e = .returned (.bool (Np.cN ⟨s.data.toList,ty,life,ds⟩))/\Below w.heap.size w w':=by
 have HD:=jq hd;obtain⟨A,c,rfl,bq,bN,kl⟩:=hd;clear kl;have gI:¬ (Np.aA s.data.toList=true/\(1<=ty/\ty<=8)/\(0<=life/\life<=100000)/\(1<=ds.length/\ds.length<=8)/\((ty=3\/ty=4)->ds.length<=1)/\(Np.dP s.data.toList=true->ty=1\/ty=5\/ty=8))->Np.cN ⟨s.data.toList,ty,life,ds⟩=false:=λhin=>by
  cases hq:Np.cN ⟨s.data.toList,ty,life,ds⟩ with
  | false=>rfl
  | true=>
   exfalso;unfold Np.cN at hq;simp only[Bool.and_eq_true,Qa,Bool.not_eq_true'] at hq;obtain⟨⟨⟨⟨⟨⟨h1,h2⟩,h3⟩,h4⟩,h5⟩,h6⟩,_⟩:=hq;obtain⟨k,rfl⟩:=Int.eq_ofNat_of_zero_le (by omega:0<=ty);rw[PY k (by omega) (by omega)] at h5;rw[PZ k (by omega) (by omega)] at h6;refine hin ⟨h1,h2,h3,h4,λht=>?_,λhw=>?_⟩
   ·simp at h5;omega
   ·rw[hw] at h6;simp at h6;omega
 have cw:=jq gI;clear gI;go_enter func150,ntmps150;go_upto_region 2 with fail
 go_cut [37] (λt wx=>Lz w s ty life (.slice A ds.length c) wx/\t = .bool (!wH s.data.toList ty life ds.length))
 case first=>
  go_wp2_with fail;refine (tW _ hs _).mono ?_;rintro e w1 ⟨rfl,hb⟩;have cE:Below w.heap.size w w1:=((vQ _ w).alloc (bQ _) _).trans (hb.mono (by simp));have eh:w.heap.size<w1.heap.size:=by have:=hb.size;simp at this;omega
  have c0:w1.cell? ⟨w.heap.size,0,none⟩=some (.string s):=by rw[hb.cell (by simp)];go_simp
  have c1:w1.cell? ⟨w.heap.size,1,none⟩=some (.int .i64 ty):=by rw[hb.cell (by simp)];go_simp
  have c2:w1.cell? ⟨w.heap.size,2,none⟩=some (.int .i64 life):=by rw[hb.cell (by simp)];go_simp
  have c3:w1.cell? ⟨w.heap.size,3,none⟩=some (.slice A ds.length c):=by rw[hb.cell (by simp)];go_simp
  have HH:=jq (show Lz w s ty life (.slice A ds.length c) w1 from ⟨cE,eh,c0,c1,c2,c3⟩);clear hb cE;go_wp2_with (first
   | (go_at_call 223;refine (PL _ _ _ _).mono ?_;rintro e w' ⟨rfl,rfl⟩)
   | (go_at_call 224;refine (agY _ _).mono ?_;rintro e w' ⟨rfl,rfl⟩))
  all_goals
   go_meet
   case rel=>
    refine⟨HH.out,?_⟩;clear HH cw HD;go_light
    first
     | (simp_all [wH];done)
     | (simp_all [wH];omega)
     | (congr 1;rw[Bool.eq_iff_iff];simp_all [wH] <;> omega)
 case rest=>
  obtain⟨⟨cE,NI,c0,c1,c2,c3⟩,rfl⟩:=hcut;have az:=jq cE;clear cE
  cases hq:wH s.data.toList ty life ds.length with
  | false=>
   have HQ:=jq hq;clear hq;go_wp2_with fail;go_ret;refine⟨ag (cw.out λ⟨a1,a2,a3,a4,a5,_⟩=>?_).symm,az.out⟩
   have:=HQ.out
   simp[wH,a1,a2,a3] at this;omega
  | true=>
   have HQ:=jq hq;clear hq;go_upto_region 4 with fail
   go_cut [55] (λt wy=>wy=wc/\t = .bool (Np.dP s.data.toList&&(decide (ty≠1)&&(decide (ty≠5)&&decide (ty≠8)))))
   case first=>
    go_wp2_with (go_at_call 225;refine (Eu _ hs _).mono ?_;rintro e w' ⟨rfl,rfl⟩)
    all_goals
     go_meet
     case rel=>
      refine⟨rfl,?_⟩;clear cw HD HQ;go_light
      first
       | (simp_all;done)
       | (simp_all;omega)
       | (congr 1;rw[Bool.eq_iff_iff];simp_all;done)
       | (congr 1;rw[Bool.eq_iff_iff];simp_all;omega)
   case rest=>
    obtain⟨rfl,rfl⟩:=hcut
    cases tC:(Np.dP s.data.toList&&(decide (ty≠1)&&(decide (ty≠5)&&decide (ty≠8)))) with
    | true=>
     have qo:=jq tC;clear tC;go_wp2_with fail;go_ret;refine⟨ag (cw.out λ⟨_,_,_,_,_,a6⟩=>?_).symm,az.out⟩
     have:=qo.out
     simp at this
     have:=a6 this.1
     omega
    | false=>
     have hin:Np.aA s.data.toList=true/\(1<=ty/\ty<=8)/\(0<=life/\life<=100000)/\(1<=ds.length/\ds.length<=8)/\((ty=3\/ty=4)->ds.length<=1)/\(Np.dP s.data.toList=true->ty=1\/ty=5\/ty=8):=by
      have h:=HQ.out;simp[wH] at h;obtain⟨⟨⟨⟨h1,h2⟩,h3⟩,h4⟩,h5⟩:=h;refine⟨h1,h2,h3,by omega,by omega,λhw=>?_⟩;rw[hw] at tC;simp at tC;omega
     obtain⟨i1,⟨i2,i3⟩,⟨i4,i5⟩,⟨i6,i7⟩,i8,i9⟩:=hin;obtain⟨k,rfl⟩:=Int.eq_ofNat_of_zero_le (by omega:0<=ty);have hv:Np.cN ⟨s.data.toList,k,life,ds⟩=Np.jg (Np.bY k) none ds:=by
      unfold Np.cN;simp only[PY k (by omega) (by omega),PZ k (by omega) (by omega),i1,uQ i2,uQ i3,uQ i4,uQ i5,uQ i6,uQ i7,Bool.true_and];have e1:((decide ((k:Int)=3)||decide ((k:Int)=4))&&decide (ds.length≠1))=false:=by
       rw[Bool.eq_false_iff];simp;omega
      have e2:(Np.dP s.data.toList&&!(decide ((k:Int)=1)||decide ((k:Int)=5)||decide ((k:Int)=8)))=false:=by
       cases hw:Np.dP s.data.toList with
       | false=>rfl
       | true=>have:=i9 hw;simp;omega
      rw[e1,e2];rfl
     have HV:=jq hv;have Dz:1<=k:=by omega
     have DA:k<=8:=by omega
     clear hv i8 i9 tC i1 c0 c2 cw HQ;go_wp2_with fail;go_loopw [4] (λi wr=>Tc wc (Np.bY k) ds i wr) (λi _=>ds.length - (intOf i).toNat)
     case atStart=>exact⟨0,jQ _,rfl,vQ _ _,rfl⟩
     case round=>
      obtain⟨j,hj,rfl,aD,hg⟩:=hrel;have HG:=jq hg;clear hg;by_cases aa:j<ds.length
      ·have mF:=aD.size;have lJ:Below w.heap.size w wr:=az.out.trans (aD.aDQ);have XP:w.heap.size<wr.heap.size:=by omega
       have d1:wr.cell? ⟨w.heap.size,1,none⟩=some (.int .i64 k):=by rw[aD.cell (by simpa using NI)];exact c1
       have d3:wr.cell? ⟨w.heap.size,3,none⟩=some (.slice A ds.length c):=by rw[aD.cell (by simpa using NI)];exact c3
       obtain⟨A',c',hA',_,_,bX⟩:=HD.out.keep cM lJ
       cases hA'
       obtain⟨b,o,e,rfl,bR,_,hce,sd,tE,tF,rfl⟩:=bX j _ (aQ aa);have e0:wr.cell? ⟨b,o+j * 3,none⟩=some (.string sd):=hce 0 _ rfl;have e1:wr.cell? ⟨b,o+j * 3+1,none⟩=some (.int .i64 ds[j].n):=hce 1 _ rfl;have e2:wr.cell? ⟨b,o+j * 3+2,none⟩=some (.int .i64 ds[j].m):=hce 2 _ rfl;have dJ:b<wr.heap.size:=by omega
       have qD:∀ (g:bE wr) (p:Addr),p.block<wr.heap.size->g.w.cell? p=wr.cell? p:=λg p h=>g.cell p h;have aZ:=jq aD;have wV:=jq lJ;have lw:=jq bX;have xr:=jq tE;have AQ:(⟨sd.data.toList,ds[j].n,ds[j].m⟩:Np.Datum)=ds[j]:=by rw[xr.out]
       have rb:=jq AQ;clear hce aD lJ bX tE c1 c3 AQ mF;by_cases rV:Np.jt (Np.bY k) ⟨sd.data.toList,ds[j].n,ds[j].m⟩=true
       ·have kK:=jq rV;clear rV;by_cases kp:j=0
        ·subst kp;simp only[Nat.zero_mul,Nat.add_zero] at e0 e1 e2;go_wp2_with fail;refine aEK ?_
         repeat (go_big_quiet_step ((go_at_call 226;exact Calls.grow_of (Es _ Dz DA _ tF _ _ _ true kK.out))))
         refine wpQuiet_nil ?_;rintro _ ⟨g,rfl⟩;go_wp2_with fail;go_roundw
         case rel=>
          go_light;have h1:=Np.MJ (r:=Np.bY k) (aQ aa) (by rw[<-rb.out];exact kK.out);exact⟨1,aa,by go_num,aZ.out.trans (g.below.mono aZ.out.size),by rw[<-h1];exact HG.out⟩
         case measure=>simp[intOf] <;> omega
        ·obtain⟨i,rfl⟩:∃ i,j=i+1:=⟨j - 1,by omega⟩;obtain⟨b',o',e',py,AK,_,jH,sq,jP,XD,rfl⟩:=lw.out i _ (aQ (by omega))
         cases py
         have f0:wr.cell? ⟨b,o+i * 3,none⟩=some (.string sq):=jH 0 _ rfl;have f1:wr.cell? ⟨b,o+i * 3+1,none⟩=some (.int .i64 (ds[i]'(by omega)).n):=jH 1 _ rfl;have f2:wr.cell? ⟨b,o+i * 3+2,none⟩=some (.int .i64 (ds[i]'(by omega)).m):=jH 2 _ rfl;have AP:(⟨sq.data.toList,(ds[i]'(by omega)).n,(ds[i]'(by omega)).m⟩:Np.Datum)=ds[i]'(by omega):=by rw[jP]
         have Fo:=jq AP;clear jH jP AP;have nE:(0:Int)<((i+1:Nat):Int):=by omega
         have h1:=Np.MK (r:=Np.bY k) (aQ (by omega:i<ds.length)) (aQ aa) (by rw[<-rb.out];exact kK.out);rw[<-rb.out,<-Fo.out] at h1;have H1:=jq h1;clear h1;by_cases fZ:Np.qs ⟨sq.data.toList,(ds[i]'(by omega)).n,(ds[i]'(by omega)).m⟩ ⟨sd.data.toList,ds[i+1].n,ds[i+1].m⟩<0
         ·have kD:=jq fZ;have Fm:=jq (uQ fZ);clear fZ;go_wp2_with fail;refine aEK ?_
          repeat (go_big_quiet_step (first
           | (go_at_call 226;exact Calls.grow_of (Es _ Dz DA _ tF _ _ _ true kK.out))
           | (go_at_call 227;exact Calls.grow_of (PH _ _ _ _ _ _ _ true Fm.out))))
          refine wpQuiet_nil ?_;rintro _ ⟨g,rfl⟩;go_wp2_with fail;go_roundw
          case rel=>
           go_light;exact⟨i+1+1,aa,by go_num,aZ.out.trans (g.below.mono aZ.out.size),by rw[HG.out,H1.out,Qb kD.out]⟩
          case measure=>simp[intOf] <;> omega
         ·have kD:=jq fZ;have Fm:=jq (tQ fZ);clear fZ;go_wp2_with fail;refine aEK ?_
          repeat (go_big_quiet_step (first
           | (go_at_call 226;exact Calls.grow_of (Es _ Dz DA _ tF _ _ _ true kK.out))
           | (go_at_call 227;exact Calls.grow_of (PH _ _ _ _ _ _ _ false Fm.out))))
          refine wpQuiet_nil ?_;rintro _ ⟨g,rfl⟩;go_wp2_with fail;go_ret;refine⟨ag ?_,wV.out.trans (g.below.aDQ)⟩;rw[HV.out,HG.out,H1.out,Qc (by have:=kD.out;omega)]
       ·have BH:Np.jt (Np.bY k) ⟨sd.data.toList,ds[j].n,ds[j].m⟩=false:=by simpa using rV
        have kK:=jq BH;clear rV BH;go_wp2_with fail;refine aEK ?_
        repeat (go_big_quiet_step ((go_at_call 226;exact Calls.grow_of (Es _ Dz DA _ tF _ _ _ false kK.out))))
        refine wpQuiet_nil ?_;rintro _ ⟨g,rfl⟩;go_wp2_with fail;go_ret;refine⟨ag ?_,wV.out.trans (g.below.aDQ)⟩;rw[HV.out,HG.out,Np.MI (aQ aa) (by rw[<-rb.out];exact kK.out)]
      ·go_wp2_with fail;go_ret;refine⟨ag ?_,az.out.trans (aD.aDQ)⟩;rw[HV.out,HG.out,List.drop_eq_nil_of_le (by omega)];rfl
theorem tU{s:ByteArray}(h:Np.aA s.data.toList=true):s.size<=60:=by
 rw[Np.QM] at h;split at h
 ·rename_i e;rw[<-aX,e];decide
 ·split at h
  ·cases h
  ·rename_i h6;rw[aX] at h6;omega
theorem agX(s1 s2:ByteArray)(t1 l1 t2 l2:Int)(v1 v2:Value)(d1 d2:List Np.Datum)(n1:Np.aA s1.data.toList=true)(n2:Np.aA s2.data.toList=true)(w:World) :
 Calls prog 234 #[.agg #[.string s1,.int .i64 t1,.int .i64 l1,v1],.agg #[.string s2,.int .i64 t2,.int .i64 l2,v2]] w
  λe w'=>e = .returned (.int .i64 (Np.gR ⟨s1.data.toList,t1,l1,d1⟩ ⟨s2.data.toList,t2,l2,d2⟩))/\Below w.heap.size w w':=by
 have hw:∀ o o',Below w.heap.size w ((w.alloc o).alloc o'):=λo o'=>((vQ _ w).alloc (bQ _) _).alloc (by simp) _;have HW:=jq hw;clear hw;have bk:=tU n1;have aK:=tU n2;have N1:=jq n1;have N2:=jq n2;have hc:=Np.CY ⟨s1.data.toList,t1,l1,d1⟩ ⟨s2.data.toList,t2,l2,d2⟩;simp only at hc;rw[hc];clear n1 n2 hc;generalize hQ:Np.aH s1.data.toList s2.data.toList=q;have HQ:=jq hQ;clear hQ;have key:∀ r:Int,(q≠0->r=q)->(q=0->r=Np.cO t1 t2)->(if q≠0 then q else Np.cO t1 t2)=r:=λr h1 h2=>by
  by_cases h:q=0
  ·rw[Qc (λe=>e h),h2 h]
  ·rw[Qb h,h1 h]
 have KEY:=jq key;clear key;by_cases hq:q=0
 ·have KQ:=jq hq;subst hq;by_cases h1:t1<t2
  ·rw[KEY.out (-1) (λe=>absurd rfl e) (λ_=>by rw[Np.cO,Qb h1])];go_enter func234,ntmps234;go_wp2_with fail;refine (Er s1 s2 (by omega) (by omega) N1.out N2.out _).mono ?_;rw[HQ.out];rintro e w1 ⟨rfl,hb⟩;obtain⟨bq,oL⟩:=sW hb;have HB:=jq ((HW.out _ _).trans (hb.mono (by simp;omega)));clear hb;go_wp2_with fail;go_ret;exact⟨rfl,HB.out⟩
  ·by_cases h2:t2<t1
   ·rw[KEY.out 1 (λe=>absurd rfl e) (λ_=>by rw[Np.cO,Qc h1,Qb h2])];go_enter func234,ntmps234;go_wp2_with fail;refine (Er s1 s2 (by omega) (by omega) N1.out N2.out _).mono ?_;rw[HQ.out];rintro e w1 ⟨rfl,hb⟩;obtain⟨bq,oL⟩:=sW hb;have HB:=jq ((HW.out _ _).trans (hb.mono (by simp;omega)));clear hb;go_wp2_with fail;go_ret;exact⟨rfl,HB.out⟩
   ·rw[KEY.out 0 (λe=>absurd rfl e) (λ_=>by rw[Np.cO,Qc h1,Qc h2])];go_enter func234,ntmps234;go_wp2_with fail;refine (Er s1 s2 (by omega) (by omega) N1.out N2.out _).mono ?_;rw[HQ.out];rintro e w1 ⟨rfl,hb⟩;obtain⟨bq,oL⟩:=sW hb;have HB:=jq ((HW.out _ _).trans (hb.mono (by simp;omega)));clear hb;go_wp2_with fail;go_ret;exact⟨rfl,HB.out⟩
 ·have tC:(q != 0)=true:=by simpa using hq
  rw[KEY.out q (λ_=>rfl) (λe=>absurd e hq)];clear hq;go_enter func234,ntmps234;go_wp2_with fail;refine (Er s1 s2 (by omega) (by omega) N1.out N2.out _).mono ?_;rw[HQ.out];rintro e w1 ⟨rfl,hb⟩;obtain⟨bq,oL⟩:=sW hb;have HB:=jq ((HW.out _ _).trans (hb.mono (by simp;omega)));clear hb;go_wp2_with fail;go_ret;exact⟨rfl,HB.out⟩
end
section
open Go.RowKit Go.MapKept
def nn(r:Nat)(kvs:List (Int×Value))(w:World):Prop:=∃ es c,w.heap[r]?=some (.map es c)/\es.toList.map (λe=>(e.key,e.val))=kvs.map λp=>(Value.int .i64 p.1,p.2)
theorem nn.lt{r:Nat}{kvs:List (Int×Value)}{w:World}(h:nn r kvs w):r<w.heap.size:=by
 obtain⟨es,c,h,_⟩:=h;exact (eQ.1 h).1
theorem nn.keep{r:Nat}{kvs:List (Int×Value)}{w w':World}{n:Nat}(h:nn r kvs w)(hb:Below n w w')(hn:r<n):nn r kvs w':=by
 obtain⟨es,c,h,h2⟩:=h;exact⟨es,c,(hb.block r hn).trans h,h2⟩
theorem nn.made(w:World):nn w.heap.size [] (w.alloc (.map #[] 0)):=⟨#[],0,heap_alloc_new _ _,rfl⟩
theorem Mz(x:Int):∀ (es:List MapEntry) (kvs:List (Int×Value)) (i:Nat),es.map (λe=>(e.key,e.val))=kvs.map (λp=>(Value.int .i64 p.1,p.2))->
 (∀ v,kvs.lookup x=some v->∃ j,Instr.findNow (.int .i64) (.int .i64 x) es i=some (some (j,v)))/\(kvs.lookup x=none->Instr.findNow (.int .i64) (.int .i64 x) es i=some none):=by
 intro es
 induction es with
 | nil=>
  intro kvs i h
  cases kvs with
  | nil=>exact⟨λv hv=>by simp at hv,λ_=>rfl⟩
  | cons=>simp at h
 | cons e es ih=>
  intro kvs i h
  cases kvs with
  | nil=>simp at h
  | cons p kvs=>
   obtain⟨y,u⟩:=p;simp only[List.map_cons,List.cons.injEq,Prod.mk.injEq] at h;obtain⟨⟨h1,h2⟩,h3⟩:=h;have hs:Instr.sameNow (.int .i64) (.int .i64 x) e.key=some (x == y):=by rw[h1];simp[Instr.sameNow]
   by_cases cB:x=y
   ·subst cB;have hb:(x == x)=true:=by simp
    rw[hb] at hs;refine⟨λv hv=>⟨i,?_⟩,λhv=>?_⟩
    ·rw[List.lookup_cons_self] at hv;simp only[Instr.findNow,hs]
     cases hv
     rw[h2]
    ·rw[List.lookup_cons_self] at hv;cases hv
   ·have hb:(x == y)=false:=by simpa using cB
    rw[hb] at hs;have hl:((y,u)::kvs).lookup x=kvs.lookup x:=by rw[List.lookup_cons,hb]
    rw[hl];obtain⟨i1,i2⟩:=ih kvs (i+1) h3;refine⟨λv hv=>?_,λhv=>?_⟩
    ·obtain⟨j,hj⟩:=i1 v hv;exact⟨j,by simp only[Instr.findNow,hs];exact hj⟩
    ·simp only[Instr.findNow,hs];exact i2 hv
section
variable {P:Program} {ops:Array Oper} {rest:List Oper} {o:Oper} {a:Act} {Q:Exit->Act->World->Prop}
theorem aAQ(w:World)(hg:o.guard=none)(m x v:Operand)(t:TypeId)(jO:o.op=Op.mapUpdate t m x v)(kt et:TypeId)(ht:P.underlying t=some (.map kt et))(hk:P.underlying kt=some (.int .i64))
 (r:Nat) (kvs:List (Int×Value)) (hm:a.eval m = .map (some r)) (hr:nn r kvs w) (key:Int) (hx:a.eval x = .int .i64 key) (val:Value) (hv:a.eval v=val) (gI:kvs.lookup key=none)
 (hK:∀ w',nn r (kvs ++ [(key,val)]) w'->Turned r w w'->wpList P ops Q rest (a.put o.dst undef) w'):wpList P ops Q (o::rest) a w:=by
 obtain⟨es,c,hr,he⟩:=hr;have hf:=(Mz key es.toList kvs 0 he).2 gI;refine wpList_plain hg λK' hK'=>?_;have hc:(Instr.checkKey false 10000 kt (.int .i64 key)).run P w = .ok () w:=MapKept.run_checkKey (k:=.int .i64 key) hk (by simp[MapKept.IsKey]) false 9999;have dz:(Instr.mapUpdate t (.map (some r)) (.int .i64 key) val).run P w = .ok () { w with heap:=w.heap.setIfInBounds r (.map (es.push { key:=.int .i64 key,val:=val,born:=c }) (c+1)) }:=by
  simp[Instr.mapUpdate,run_underlying ht,MapKept.run_getObj_map hr,hc,MapKept.run_findKey hk hf,MapKept.run_setObj_map _ hr,Result.andThen]
 unfold Oper.wp;simp[execOp,jO,hm,hx,hv,dz,Result.andThen];have hl:r<w.heap.size:=(eQ.1 hr).1;refine hK' _ _ (hK _ ⟨_,_,by simp[hl];exact⟨rfl,rfl⟩,by simp[he]⟩ ⟨rfl,rfl,rfl,by simp,λi hi=>by simp[Ne.symm hi]⟩)
theorem akK(w:World)(t kt et:TypeId)(ht:P.underlying t=some (.map kt et))(hk:P.underlying kt=some (.int .i64))(r:Nat)(kvs:List (Int×Value))(hr:nn r kvs w)(key:Int)(z:Value)(hz:(zeroValue et).run P w = .ok z w) :
 (Instr.lookup t (.map (some r)) (.int .i64 key) false).run P w = .ok ((kvs.lookup key).getD z) w:=by
 obtain⟨es,c,hr,he⟩:=hr;have hf:=Mz key es.toList kvs 0 he;have hc:∀ b,(Instr.checkKey b 10000 kt (.int .i64 key)).run P w = .ok () w:=λb=>MapKept.run_checkKey (k:=.int .i64 key) hk (by simp[MapKept.IsKey]) b 9999
 cases hl:kvs.lookup key with
 | none=>simp[Instr.lookup,run_underlying ht,MapKept.run_getObj_map hr,hc,MapKept.run_findKey hk (hf.2 hl),Result.andThen,hz]
 | some v=>
  obtain⟨j,hj⟩:=hf.1 v hl;simp[Instr.lookup,run_underlying ht,MapKept.run_getObj_map hr,hc,MapKept.run_findKey hk hj,Result.andThen]
end
def pP(p:Int×List UInt8):Value:=.agg #[.int .i64 p.1,av p.2]
def jA(r:Nat)(kvs:List ((Int×List UInt8)×Value))(w:World):Prop:=∃ es,w.heap[r]?=some (.map es es.size)/\es.toList.map (λe=>(e.key,e.val))=kvs.map (λp=>(pP p.1,p.2))/\∀ (i:Nat) (e:MapEntry),es[i]?=some e->e.born=i
theorem jA.lt{r:Nat}{kvs:List ((Int×List UInt8)×Value)}{w:World}(h:jA r kvs w):r<w.heap.size:=by
 obtain⟨es,h,_⟩:=h;exact (eQ.1 h).1
theorem jA.keep{r:Nat}{kvs:List ((Int×List UInt8)×Value)}{w w':World}{n:Nat}(h:jA r kvs w)(hb:Below n w w')(hn:r<n):jA r kvs w':=by
 obtain⟨es,h,h2⟩:=h;exact⟨es,(hb.block r hn).trans h,h2⟩
theorem jA.keep'{r:Nat}{kvs:List ((Int×List UInt8)×Value)}{w w':World}(h:jA r kvs w)(hb:w'.heap[r]?=w.heap[r]?):jA r kvs w':=by
 obtain⟨es,h,h2⟩:=h;exact⟨es,hb.trans h,h2⟩
theorem jA.made(w:World):jA w.heap.size [] (w.alloc (.map #[] 0)):=⟨#[],heap_alloc_new _ _,rfl,λi e h=>by simp at h⟩
theorem UM(p q:Int×List UInt8)(w:World):(Op.equal 301 (pP p) (pP q)).run prog w = .ok (decide (p=q)) w:=by
 obtain⟨n,a⟩:=p;obtain⟨m,b⟩:=q;have u3:=underlying3;have a3:=isAgg3;have z3:=sizeOf3;have u9:=underlying9;have a9:=isAgg9;have z9:=sizeOf9;have hS:prog.underlying 301=some (.struct (prog.fieldsOf 301)):=by kernel_rfl
 have hp:prog.stoodInHeld 301=false:=by kernel_rfl
 show (Op.equalIn 10000 301 (.agg #[.int .i64 n,.string ⟨a.toArray⟩]) (.agg #[.int .i64 m,.string ⟨b.toArray⟩])).run prog w=_;rw[show (10000:Nat)=9999+1 from rfl,run_equalIn_agg w 9999 301 _ _ hS hp];simp only[Program.fieldsOf,underlying301];go_simp;by_cases h0:a=b <;> by_cases h1:n=m <;> simp[h0,h1]
theorem L2(b:Bool)(p:Int×List UInt8)(w:World):(Instr.checkKey b 10000 301 (pP p)).run prog w = .ok () w:=by
 have hS:=underlying301;have hs:∀ s w,(Instr.checkKey b 9999 9 (.string s)).run prog w = .ok () w:=λs w=>MapKept.run_checkKey (k:=.string s) underlying9 (by simp[MapKept.IsKey]) b 9998;have hi:∀ n w,(Instr.checkKey b 9999 3 (.int .i64 n)).run prog w = .ok () w:=λn w=>MapKept.run_checkKey (k:=.int .i64 n) underlying3 (by simp[MapKept.IsKey]) b 9998;have a3:=isAgg3;have z3:=sizeOf3;have a9:=isAgg9;have z9:=sizeOf9;rw[show (10000:Nat)=9999+1 from rfl,Instr.checkKey];simp only[pP,av];simp[run_underlying hS,go_sem,Result.andThen,hs,hi]
theorem UX{fs:Array Field}{k:Value}{e:MapEntry}{es:List MapEntry}(i:Nat):Instr.findNow (.struct fs) k (e::es) i=none:=by
 simp only[Instr.findNow];rfl
theorem LS(p:Int×List UInt8)(w:World):∀ (es:List MapEntry) (kvs:List ((Int×List UInt8)×Value)) (i:Nat),es.map (λe=>(e.key,e.val))=kvs.map (λq=>(pP q.1,q.2))->
 (∀ v,kvs.lookup p=some v->∃ j,(es[j]?).map (λe=>(e.key,e.val))=some (pP p,v)/\kvs[j]?=some (p,v)/\(Instr.findAsking 301 (pP p) es i).run prog w = .ok (some (i+j,v)) w)/\(kvs.lookup p=none->(Instr.findAsking 301 (pP p) es i).run prog w = .ok none w)
 | [],kvs,i,h=>by
   cases kvs with
   | nil=>exact⟨λv h=>by simp at h,λ_=>by rw[Instr.findAsking];rfl⟩
   | cons=>simp at h
 | e::es,kvs,i,h=>by
   cases kvs with
   | nil=>simp at h
   | cons q kvs=>
    obtain⟨q,u⟩:=q;simp only[List.map_cons,List.cons.injEq,Prod.mk.injEq] at h;obtain⟨⟨h1,h2⟩,h3⟩:=h;obtain⟨i1,i2⟩:=LS p w es kvs (i+1) h3;have hq:=UM p q w;rw[<-h1] at hq;by_cases jl:p=q
    ·have hd:decide (p=q)=true:=by simpa using jl
     rw[hd] at hq;have hr:(Instr.findAsking 301 (pP p) (e::es) i).run prog w = .ok (some (i,u)) w:=by
      rw[Instr.findAsking];simp[hq,h2]
     subst jl;refine⟨λv hv=>⟨0,?_,?_,?_⟩,λhn=>?_⟩
     ·rw[List.lookup_cons_self] at hv;cases hv;simp[h1,h2]
     ·rw[List.lookup_cons_self] at hv;cases hv;rfl
     ·rw[List.lookup_cons_self] at hv;cases hv;exact hr
     ·rw[List.lookup_cons_self] at hn;cases hn
    ·have hd:decide (p=q)=false:=by simpa using jl
     rw[hd] at hq;have hb:(p == q)=false:=by simpa using jl
     have hr:(Instr.findAsking 301 (pP p) (e::es) i).run prog w=(Instr.findAsking 301 (pP p) es (i+1)).run prog w:=by
      rw[Instr.findAsking];simp[hq]
     have hl:((q,u)::kvs).lookup p=kvs.lookup p:=by rw[List.lookup_cons,hb]
     rw[hr,hl];refine⟨λv hv=>?_,i2⟩;obtain⟨j,j1,j2,j3⟩:=i1 v hv;exact⟨j+1,by simpa using j1,by simpa using j2,by rw[show i+(j+1)=i+1+j by omega];exact j3⟩
theorem MA(p:Int×List UInt8)(w:World)(es:List MapEntry)(kvs:List ((Int×List UInt8)×Value))(h:es.map (λe=>(e.key,e.val))=kvs.map (λq=>(pP q.1,q.2))) :
 (∀ v,kvs.lookup p=some v->∃ j,(es[j]?).map (λe=>(e.key,e.val))=some (pP p,v)/\kvs[j]?=some (p,v)/\(Instr.findKey 301 (pP p) es).run prog w = .ok (some (j,v)) w)/\(kvs.lookup p=none->(Instr.findKey 301 (pP p) es).run prog w = .ok none w):=by
 have hS:=underlying301
 cases es with
 | nil=>
  cases kvs with
  | nil=>exact⟨λv h=>by simp at h,λ_=>by simp[Instr.findKey,run_underlying hS,Instr.findNow]⟩
  | cons=>simp at h
 | cons e es=>
  obtain⟨i1,i2⟩:=LS p w (e::es) kvs 0 h;have hr:(Instr.findKey 301 (pP p) (e::es)).run prog w=(Instr.findAsking 301 (pP p) (e::es) 0).run prog w:=by
   simp[Instr.findKey,run_underlying hS,UX]
  rw[hr];refine⟨λv hv=>?_,i2⟩;obtain⟨j,j1,j2,j3⟩:=i1 v hv;exact⟨j,j1,j2,by rw[j3,Nat.zero_add]⟩
theorem akZ(w:World)(t et:TypeId)(ht:prog.underlying t=some (.map 301 et))(r:Nat)(kvs:List ((Int×List UInt8)×Value))(hr:jA r kvs w)(p:Int×List UInt8)(z:Value)(hz:(zeroValue et).run prog w = .ok z w) :
 (Instr.lookup t (.map (some r)) (pP p) false).run prog w = .ok ((kvs.lookup p).getD z) w:=by
 obtain⟨es,hr,he,_⟩:=hr;have hf:=MA p w es.toList kvs he;have hc:∀ b,(Instr.checkKey b 10000 301 (pP p)).run prog w = .ok () w:=λb=>L2 b p w
 cases hl:kvs.lookup p with
 | none=>simp[Instr.lookup,run_underlying ht,MapKept.run_getObj_map hr,hc,hf.2 hl,Result.andThen,hz]
 | some v=>
  obtain⟨j,_,_,hj⟩:=hf.1 v hl;simp[Instr.lookup,run_underlying ht,MapKept.run_getObj_map hr,hc,hj,Result.andThen]
theorem azY{ops:Array Oper}{rest:List Oper}{o:Oper}{a:Act}{Q:Exit->Act->World->Prop}(w:World)(hg:o.guard=none)(m x v:Operand)(t:TypeId)(jO:o.op=Op.mapUpdate t m x v)(et:TypeId)(ht:prog.underlying t=some (.map 301 et))
 (r:Nat) (kvs:List ((Int×List UInt8)×Value)) (hm:a.eval m = .map (some r)) (hr:jA r kvs w) (p:Int×List UInt8) (hx:a.eval x=pP p) (val:Value) (hv:a.eval v=val) (gI:kvs.lookup p=none)
 (hK:∀ w',jA r (kvs ++ [(p,val)]) w'->Turned r w w'->wpList prog ops Q rest (a.put o.dst undef) w'):wpList prog ops Q (o::rest) a w:=by
 obtain⟨es,hr,he,ik⟩:=hr;have hf:=(MA p w es.toList kvs he).2 gI;refine wpList_plain hg λK' hK'=>?_;have hc:(Instr.checkKey false 10000 301 (pP p)).run prog w = .ok () w:=L2 false p w;have dz:(Instr.mapUpdate t (.map (some r)) (pP p) val).run prog w = .ok () { w with heap:=w.heap.setIfInBounds r (.map (es.push { key:=pP p,val:=val,born:=es.size }) (es.size+1)) }:=by
  simp[Instr.mapUpdate,run_underlying ht,MapKept.run_getObj_map hr,hc,hf,MapKept.run_setObj_map _ hr,Result.andThen]
 unfold Oper.wp;simp[execOp,jO,hm,hx,hv,dz,Result.andThen];have hl:r<w.heap.size:=(eQ.1 hr).1;refine hK' _ _ (hK _ ⟨es.push { key:=pP p,val:=val,born:=es.size },by simp[hl],by simp[he],λi e hi=>?_⟩ ⟨rfl,rfl,rfl,by simp,λi hi=>by simp[Ne.symm hi]⟩);rw[Array.getElem?_push] at hi;split at hi
 ·rename_i h1;cases hi;exact h1.symm
 ·exact ik i e hi
def pH(p:Int×List UInt8):Value:=.agg #[.int .i64 p.1,av p.2]
def ou(r:Nat)(kvs:List ((Int×List UInt8)×Value))(w:World):Prop:=∃ es,w.heap[r]?=some (.map es es.size)/\es.toList.map (λe=>(e.key,e.val))=kvs.map (λp=>(pH p.1,p.2))/\∀ (i:Nat) (e:MapEntry),es[i]?=some e->e.born=i
theorem ou.lt{r:Nat}{kvs:List ((Int×List UInt8)×Value)}{w:World}(h:ou r kvs w):r<w.heap.size:=by
 obtain⟨es,h,_⟩:=h;exact (eQ.1 h).1
theorem ou.keep{r:Nat}{kvs:List ((Int×List UInt8)×Value)}{w w':World}{n:Nat}(h:ou r kvs w)(hb:Below n w w')(hn:r<n):ou r kvs w':=by
 obtain⟨es,h,h2⟩:=h;exact⟨es,(hb.block r hn).trans h,h2⟩
theorem ou.keep'{r:Nat}{kvs:List ((Int×List UInt8)×Value)}{w w':World}(h:ou r kvs w)(hb:w'.heap[r]?=w.heap[r]?):ou r kvs w':=by
 obtain⟨es,h,h2⟩:=h;exact⟨es,hb.trans h,h2⟩
theorem ou.made(w:World):ou w.heap.size [] (w.alloc (.map #[] 0)):=⟨#[],heap_alloc_new _ _,rfl,λi e h=>by simp at h⟩
theorem UK(p q:Int×List UInt8)(w:World):(Op.equal 186 (pH p) (pH q)).run prog w = .ok (decide (p=q)) w:=by
 obtain⟨n,a⟩:=p;obtain⟨m,b⟩:=q;have u3:=underlying3;have a3:=isAgg3;have z3:=sizeOf3;have u9:=underlying9;have a9:=isAgg9;have z9:=sizeOf9;have hS:prog.underlying 186=some (.struct (prog.fieldsOf 186)):=by kernel_rfl
 have hp:prog.stoodInHeld 186=false:=by kernel_rfl
 show (Op.equalIn 10000 186 (.agg #[.int .i64 n,.string ⟨a.toArray⟩]) (.agg #[.int .i64 m,.string ⟨b.toArray⟩])).run prog w=_;rw[show (10000:Nat)=9999+1 from rfl,run_equalIn_agg w 9999 186 _ _ hS hp];simp only[Program.fieldsOf,underlying186];go_simp;by_cases h0:a=b <;> by_cases h1:n=m <;> simp[h0,h1]
theorem T4(b:Bool)(p:Int×List UInt8)(w:World):(Instr.checkKey b 10000 186 (pH p)).run prog w = .ok () w:=by
 have hS:=underlying186;have hs:∀ s w,(Instr.checkKey b 9999 9 (.string s)).run prog w = .ok () w:=λs w=>MapKept.run_checkKey (k:=.string s) underlying9 (by simp[MapKept.IsKey]) b 9998;have hi:∀ n w,(Instr.checkKey b 9999 3 (.int .i64 n)).run prog w = .ok () w:=λn w=>MapKept.run_checkKey (k:=.int .i64 n) underlying3 (by simp[MapKept.IsKey]) b 9998;have a3:=isAgg3;have z3:=sizeOf3;have a9:=isAgg9;have z9:=sizeOf9;rw[show (10000:Nat)=9999+1 from rfl,Instr.checkKey];simp only[pH,av];simp[run_underlying hS,go_sem,Result.andThen,hs,hi]
theorem UV{fs:Array Field}{k:Value}{e:MapEntry}{es:List MapEntry}(i:Nat):Instr.findNow (.struct fs) k (e::es) i=none:=by
 simp only[Instr.findNow];rfl
theorem LQ(p:Int×List UInt8)(w:World):∀ (es:List MapEntry) (kvs:List ((Int×List UInt8)×Value)) (i:Nat),es.map (λe=>(e.key,e.val))=kvs.map (λq=>(pH q.1,q.2))->
 (∀ v,kvs.lookup p=some v->∃ j,(es[j]?).map (λe=>(e.key,e.val))=some (pH p,v)/\kvs[j]?=some (p,v)/\(Instr.findAsking 186 (pH p) es i).run prog w = .ok (some (i+j,v)) w)/\(kvs.lookup p=none->(Instr.findAsking 186 (pH p) es i).run prog w = .ok none w)
 | [],kvs,i,h=>by
   cases kvs with
   | nil=>exact⟨λv h=>by simp at h,λ_=>by rw[Instr.findAsking];rfl⟩
   | cons=>simp at h
 | e::es,kvs,i,h=>by
   cases kvs with
   | nil=>simp at h
   | cons q kvs=>
    obtain⟨q,u⟩:=q;simp only[List.map_cons,List.cons.injEq,Prod.mk.injEq] at h;obtain⟨⟨h1,h2⟩,h3⟩:=h;obtain⟨i1,i2⟩:=LQ p w es kvs (i+1) h3;have hq:=UK p q w;rw[<-h1] at hq;by_cases jl:p=q
    ·have hd:decide (p=q)=true:=by simpa using jl
     rw[hd] at hq;have hr:(Instr.findAsking 186 (pH p) (e::es) i).run prog w = .ok (some (i,u)) w:=by
      rw[Instr.findAsking];simp[hq,h2]
     subst jl;refine⟨λv hv=>⟨0,?_,?_,?_⟩,λhn=>?_⟩
     ·rw[List.lookup_cons_self] at hv;cases hv;simp[h1,h2]
     ·rw[List.lookup_cons_self] at hv;cases hv;rfl
     ·rw[List.lookup_cons_self] at hv;cases hv;exact hr
     ·rw[List.lookup_cons_self] at hn;cases hn
    ·have hd:decide (p=q)=false:=by simpa using jl
     rw[hd] at hq;have hb:(p == q)=false:=by simpa using jl
     have hr:(Instr.findAsking 186 (pH p) (e::es) i).run prog w=(Instr.findAsking 186 (pH p) es (i+1)).run prog w:=by
      rw[Instr.findAsking];simp[hq]
     have hl:((q,u)::kvs).lookup p=kvs.lookup p:=by rw[List.lookup_cons,hb]
     rw[hr,hl];refine⟨λv hv=>?_,i2⟩;obtain⟨j,j1,j2,j3⟩:=i1 v hv;exact⟨j+1,by simpa using j1,by simpa using j2,by rw[show i+(j+1)=i+1+j by omega];exact j3⟩
theorem UT(p:Int×List UInt8)(w:World)(es:List MapEntry)(kvs:List ((Int×List UInt8)×Value))(h:es.map (λe=>(e.key,e.val))=kvs.map (λq=>(pH q.1,q.2))) :
 (∀ v,kvs.lookup p=some v->∃ j,(es[j]?).map (λe=>(e.key,e.val))=some (pH p,v)/\kvs[j]?=some (p,v)/\(Instr.findKey 186 (pH p) es).run prog w = .ok (some (j,v)) w)/\(kvs.lookup p=none->(Instr.findKey 186 (pH p) es).run prog w = .ok none w):=by
 have hS:=underlying186
 cases es with
 | nil=>
  cases kvs with
  | nil=>exact⟨λv h=>by simp at h,λ_=>by simp[Instr.findKey,run_underlying hS,Instr.findNow]⟩
  | cons=>simp at h
 | cons e es=>
  obtain⟨i1,i2⟩:=LQ p w (e::es) kvs 0 h;have hr:(Instr.findKey 186 (pH p) (e::es)).run prog w=(Instr.findAsking 186 (pH p) (e::es) 0).run prog w:=by
   simp[Instr.findKey,run_underlying hS,UV]
  rw[hr];refine⟨λv hv=>?_,i2⟩;obtain⟨j,j1,j2,j3⟩:=i1 v hv;exact⟨j,j1,j2,by rw[j3,Nat.zero_add]⟩
end
section
open Go.RowKit
theorem Zh(a b:ByteArray)(n m p q:Int)(w:World):(binOp .neq 128 (.agg #[.string a,.int .i64 n,.int .i64 m]) (.agg #[.string b,.int .i64 p,.int .i64 q])).run prog w = .ok (.bool (!(a.toList == b.toList&&(n == p&&m == q)))) w:=by
 have u3:=underlying3;have a3:=isAgg3;have z3:=sizeOf3;have u9:=underlying9;have a9:=isAgg9;have z9:=sizeOf9;have hS:prog.underlying 128=some (.struct (prog.fieldsOf 128)):=by kernel_rfl
 have hp:prog.stoodInHeld 128=false:=by kernel_rfl
 rw[run_neq_struct,show (10000:Nat)=9999+1 from rfl,run_equalIn_agg w 9999 128 _ _ hS hp];simp only[Program.fieldsOf,underlying128];go_simp;by_cases h0:a.toList=b.toList <;> by_cases h1:n=p <;> by_cases h2:m=q <;> simp[h0,h1,h2]
theorem Uy{d x:Np.Datum}{a b:ByteArray}(ha:a.data.toList=d.text)(hb:b.data.toList=x.text):(!(a.toList == b.toList&&(d.n == x.n&&d.m == x.m)))=decide (d≠x):=by
 rw[dQ,dQ,ha,hb,Bool.eq_iff_iff];simp only[Bool.not_eq_true',Bool.and_eq_false_iff,beq_eq_false_iff_ne,Qa];obtain⟨t,n,m⟩:=d;obtain⟨t2,n2,m2⟩:=x;simp only[ne_eq,Np.Datum.mk.injEq,not_and];constructor
 ·rintro (h | h | h) rfl rfl
  ·exact absurd rfl h
  ·exact absurd rfl h
  ·exact h
 ·intro h;by_cases h1:t=t2
  ·by_cases h2:n=n2
   ·exact .inr (.inr (h h1 h2))
   ·exact .inr (.inl h2)
  ·exact .inl h1
theorem Uo{α:Type}{xs ys:List α}{k:Nat}(h1:k<xs.length)(h2:k<ys.length)(h:xs.take k=ys.take k)(he:xs[k]=ys[k]):xs.take (k+1)=ys.take (k+1):=by
 rw[fQ h1,fQ h2,h,he]
theorem Un{α:Type}{xs ys:List α}{k:Nat}(hl:xs.length=ys.length)(hk:¬ k<xs.length)(h:xs.take k=ys.take k):xs=ys:=by
 rwa [kQ (by omega),kQ (by omega)] at h
theorem alY(s1 s2:ByteArray)(t1 l1 t2 l2:Int)(v1 v2:Value)(d1 d2:List Np.Datum)(w:World)(fG:SlR bK 3 w w.heap.size v1 d1)(kZ:SlR bK 3 w w.heap.size v2 d2) :
 Calls prog 63 #[.agg #[.string s1,.int .i64 t1,.int .i64 l1,v1],.agg #[.string s2,.int .i64 t2,.int .i64 l2,v2]] w
  λe w'=>e = .returned (.bool (decide (s1=s2/\t1=t2/\l1=l2/\d1=d2)))/\Below w.heap.size w w':=by
 obtain⟨r,hr⟩:=aCQ (decide (s1=s2/\t1=t2/\l1=l2/\d1=d2));rw[hr];have HR:=jq hr;have qc:=jq fG;have iL:=jq kZ;obtain⟨A1,c1,rfl,bq,bN⟩:=ak fG;obtain⟨A2,c2,rfl,fF,eK⟩:=ak kZ;have kW:Below w.heap.size w ((w.alloc (.cells #[.string s1,.int .i64 t1,.int .i64 l1,.slice A1 d1.length c1] 26)).alloc (.cells #[.string s2,.int .i64 t2,.int .i64 l2,.slice A2 d2.length c2] 26)):=((vQ _ _).alloc (bQ _) _).alloc (by simp) _;have aY:=jq kW;clear hr fG kZ kW;have vG:∀ x y:Int,(x != y)=decide (x≠y):=λx y=>by by_cases h:x=y <;> simp[h]
 by_cases h1:s1=s2
 case neg=>
  have h1':¬ s1.toList=s2.toList:=λe=>h1 (mR (by rw[<-dQ,<-dQ];exact e));have HF:=jq (show r=false by rw[<-HR.out];simp[h1]);clear h1 vG;go_enter func63,ntmps63;go_wp2_with fail;go_ret;exact⟨ag HF.out.symm,aY.out⟩
 case pos=>
  subst h1;by_cases h2:t1=t2
  case neg=>
   have h2':(t1 != t2)=true:=by simpa using h2
   have HF:=jq (show r=false by rw[<-HR.out];simp[h2]);clear h2 vG;go_enter func63,ntmps63;go_wp2_with fail;go_ret;exact⟨ag HF.out.symm,aY.out⟩
  case pos=>
   subst h2;by_cases h3:l1=l2
   case neg=>
    have h3':(l1 != l2)=true:=by simpa using h3
    have HF:=jq (show r=false by rw[<-HR.out];simp[h3]);clear h3 vG;go_enter func63,ntmps63;go_wp2_with fail;go_ret;exact⟨ag HF.out.symm,aY.out⟩
   case pos=>
    subst h3;by_cases h4:d1.length=d2.length
    case neg=>
     have h4':((d1.length:Int) != (d2.length:Int))=true:=by rw[vG];simp;omega
     have HF:=jq (show r=false by rw[<-HR.out];simp;intro e;exact h4 (by rw[e]));clear h4 vG;go_enter func63,ntmps63;go_wp2_with fail;go_ret;exact⟨ag HF.out.symm,aY.out⟩
    case pos=>
     have h4':((d1.length:Int) != (d2.length:Int))=false:=by rw[vG];simp;omega
     have HL:=jq h4;clear h4 vG;go_enter func63,ntmps63;go_wp2_with fail;have ap:((w.alloc (.cells #[.string s1,.int .i64 t1,.int .i64 l1,.slice A1 d1.length c1] 26)).alloc (.cells #[.string s1,.int .i64 t1,.int .i64 l1,.slice A2 d2.length c2] 26)).heap.size=w.heap.size+1+1:=by simp
     have q1:((w.alloc (.cells #[.string s1,.int .i64 t1,.int .i64 l1,.slice A1 d1.length c1] 26)).alloc (.cells #[.string s1,.int .i64 t1,.int .i64 l1,.slice A2 d2.length c2] 26)).cell? ⟨w.heap.size,3,none⟩=some (.slice A1 d1.length c1):=by simp[go_sem]
     have q2:((w.alloc (.cells #[.string s1,.int .i64 t1,.int .i64 l1,.slice A1 d1.length c1] 26)).alloc (.cells #[.string s1,.int .i64 t1,.int .i64 l1,.slice A2 d2.length c2] 26)).cell? ⟨w.heap.size+1,3,none⟩=some (.slice A2 d2.length c2):=by simp[go_sem]
     generalize rW:((w.alloc (.cells #[.string s1,.int .i64 t1,.int .i64 l1,.slice A1 d1.length c1] 26)).alloc (.cells #[.string s1,.int .i64 t1,.int .i64 l1,.slice A2 d2.length c2] 26))=wa at *;have HQ:=jq (And.intro q1 (And.intro q2 ap));clear rW q1 q2 ap;go_loopw [5] (λi wr=>∃ k:Nat,k<=d1.length/\i = .int .i64 k/\Hid (d1.take k=d2.take k)/\Hid (Below wa.heap.size wa wr)) (λi _=>d1.length - (intOf i).toNat)
     case atStart=>exact⟨0,jQ _,rfl,jq rfl,jq (vQ _ _)⟩
     case round=>
      obtain⟨k,hk,rfl,HN,HB⟩:=hrel;have aD:=aY.out.trans (HB.out.mono aY.out.size);have rR:=HQ.out;have g1:=aBX HB.out rR.1;have g2:=aBX HB.out rR.2.1;clear rR;by_cases aa:k<d1.length
      ·have tn:k<d2.length:=by have:=HL.out;omega
       obtain⟨b,o,c',s,hv,bD,_,bp,_,e0,e1,e2⟩:=C1 qc.out (aQ aa);simp only[Value.slice.injEq,true_and] at hv;obtain⟨rfl,rfl⟩:=hv;obtain⟨b',o',c'',s',hv,s9,_,iX,_,f0,f1,f2⟩:=C1 iL.out (aQ tn);simp only[Value.slice.injEq,true_and] at hv;obtain⟨rfl,rfl⟩:=hv;have HT:=jq (Uo aa tn HN.out);have lD:=jq (show d1[k]≠d2[k]->r=false from λhne=>by rw[<-HR.out];simp;intro e;subst e;exact hne rfl);generalize d1[k]=x at *;generalize d2[k]=y at *;replace e0:=(aD.cell (p:=⟨b,o+k * 3,none⟩) bD).trans e0;replace e1:=(aD.cell (p:=⟨b,o+k * 3+1,none⟩) bD).trans e1;replace e2:=(aD.cell (p:=⟨b,o+k * 3+2,none⟩) bD).trans e2;replace f0:=(aD.cell (p:=⟨b',o'+k * 3,none⟩) s9).trans f0;replace f1:=(aD.cell (p:=⟨b',o'+k * 3+1,none⟩) s9).trans f1;replace f2:=(aD.cell (p:=⟨b',o'+k * 3+2,none⟩) s9).trans f2;have bV:(0:Int)<=(k:Int):=by omega
       have bT:(k:Int)<(d1.length:Int):=by omega
       have jK:(k:Int)<(d2.length:Int):=by omega
       have heq:=Zh s s' x.n x.m y.n y.m;rw[Uy bp iX] at heq;clear aD bp iX;by_cases hx:x=y
       ·have HX:=jq hx;have kw:decide (x≠y)=false:=by simpa using hx
        rw[kw] at heq;clear hx kw;go_wp2_with fail;go_quiet (fail);go_wp2_with fail;go_roundw
        case rel=>exact⟨k+1,by omega,by go_num,jq (HT.out HX.out),jq (below_drewN HB.out _)⟩
        case measure=>simp[intOf] <;> omega
       ·have HX:=jq hx;have kw:decide (x≠y)=true:=by simpa using hx
        rw[kw] at heq;clear hx kw;go_wp2_with fail;go_quiet (fail);go_wp2_with fail;go_ret;exact⟨ag (lD.out HX.out).symm,below_drewN (aY.out.trans (HB.out.mono aY.out.size)) _⟩
      ·go_wp2_with fail;go_ret;refine⟨ag ?_,aY.out.trans (HB.out.mono aY.out.size)⟩;rw[<-HR.out]
       have:=Un HL.out aa HN.out
       simp[this]
structure BldT(T:TypeId):Prop where
 lies:liesAt prog prog.depth T (2 / prog.cellsOf T) 0 198 1=true
 ne:T≠5
def Bld(T:TypeId)(B b:Nat)(r:Option Nat)(l:List UInt8)(w:World):Prop:=
 ∃ p v,(p = .pointer none\/p = .pointer (some ⟨b,0,none⟩))/\B<=b/\w.heap[b]?=some (.cells #[p,v] T (0,0))/\w.ownsRow B 5 1 v l.length (Lib.byteCells l)/\v.ownBlock=r/\r≠some b/\(l = []->v = .slice none 0 0)
structure BS(b:Nat)(r:Option Nat)(w:World)(r':Option Nat)(w':World):Prop where
 os:w'.os=w.os
 tape:w'.tape=w.tape
 output:w'.output=w.output
 size:w.heap.size<=w'.heap.size
 keep:∀ k,k<w.heap.size->k≠b->r≠some k->w'.heap[k]?=w.heap[k]?
 at_:r'=r\/∃ k,w.heap.size<=k/\r'=some k
theorem BS.refl(b:Nat)(r:Option Nat)(w:World):BS b r w r w:=⟨rfl,rfl,rfl,bQ _,λ_ _ _ _=>rfl,.inl rfl⟩
theorem BS.trans{b:Nat}{r r' r'':Option Nat}{w w' w'':World}(h:BS b r w r' w')(k:BS b r' w' r'' w''):BS b r w r'' w'':=by
 refine⟨k.os.trans h.os,k.tape.trans h.tape,k.output.trans h.output,yQ h.size k.size,λi hi hb hr=>?_,?_⟩
 ·refine (k.keep i (lQ hi h.size) hb (λe=>?_)).trans (h.keep i hi hb hr);rcases h.at_ with e' | ⟨j,hj,e'⟩
  ·rw[e'] at e;exact hr e
  ·rw[e'] at e;simp at e;omega
 ·rcases k.at_ with e | ⟨j,hj,e⟩
  ·rcases h.at_ with e' | ⟨j,hj,e'⟩
   ·exact .inl (e.trans e')
   ·exact .inr ⟨j,hj,e.trans e'⟩
  ·exact .inr ⟨j,yQ h.size hj,e⟩
theorem BS.of_below{b:Nat}{r:Option Nat}{w w':World}(h:Below w.heap.size w w'):BS b r w r w':=⟨h.os,h.tape,h.output,h.size,λk hk _ _=>h.block k hk,.inl rfl⟩
theorem BS.after{b:Nat}{r r':Option Nat}{w w' w'':World}(h:BS b r w r' w')(k:Below w'.heap.size w' w''):BS b r w r' w'':=h.trans (BS.of_below k)
theorem BS.below{b:Nat}{r r':Option Nat}{w w':World}{n:Nat}(h:BS b r w r' w')(hb:n<=b)(hr:∀ k,r=some k->n<=k)(hn:n<=w.heap.size):Below n w w':=
 ⟨h.os,h.tape,h.output,h.size,λk hk=>h.keep k (by omega) (by omega) (λe=>by have:=hr k e;omega)⟩
theorem BS.cell{b:Nat}{r r':Option Nat}{w w':World}(h:BS b r w r' w'){k:Nat}(hk:k<w.heap.size)(hb:k≠b)(hr:r≠some k)(o:Nat):w'.cell? ⟨k,o,none⟩=w.cell? ⟨k,o,none⟩:=iQ (w:=w) (h.keep k hk hb hr)
theorem BS.free{b:Nat}{r r':Option Nat}{w w':World}(h:BS b r w r' w'){k:Nat}(hk:k<w.heap.size)(hr:r≠some k):r'≠some k:=λe=>by
 rcases h.at_ with e' | ⟨j,hj,e'⟩
 ·rw[e'] at e;exact hr e
 ·rw[e'] at e;simp at e;omega
theorem Bld.row{T:TypeId}{B b:Nat}{r:Option Nat}{l:List UInt8}{w:World}(h:Bld T B b r l w):B<=b/\b<w.heap.size/\∀ k,r=some k->B<=k/\k<w.heap.size:=by
 obtain⟨p,v,_,hB,hb,ho,rfl,_,_⟩:=h;exact⟨hB,(eQ.1 hb).1,λk hk=>ho.lt k hk⟩
theorem Bld.keep{T:TypeId}{B b:Nat}{r:Option Nat}{l:List UInt8}{w w':World}(h:Bld T B b r l w)(hb:Below w.heap.size w w'):Bld T B b r l w':=by
 have hrow:=h.row;obtain⟨p,v,hp,hB,hh,ho,rfl,hne,hn⟩:=h;refine⟨p,v,hp,hB,(hb.block b hrow.2.1).trans hh,gY ho (λg hg=>hb.block g (hrow.2.2 g hg).2),rfl,hne,hn⟩
theorem Bld.fresh(T:TypeId)(w:World):Bld T w.heap.size w.heap.size none [] (w.alloc (.cells #[.pointer none,.slice none 0 0] T)):=
 ⟨_,_,.inl rfl,bQ _,heap_alloc_new w _,World.ownsRow_nil _ _ _ _,rfl,by simp,λ_=>rfl⟩
theorem ZB{w:World}{base:Nat}{e T:TypeId}{v:Value}{n:Nat}{xs:List Value}{b:Nat}{cs:Array Value}{fr:Nat×Nat}(ho:w.ownsRow base e 1 v n xs)(hb:w.heap[b]?=some (.cells cs T fr))(hT:T≠e):v.ownBlock≠some b:=by
 intro h;rcases ho.2 with ⟨rfl,_⟩ | ⟨g,cap,cur,rfl,_,hg,_⟩
 ·cases h
 ·have:g=b:=Option.some.inj h
  subst this;rw[hb] at hg;simp only[Option.some.injEq,Obj.cells.injEq] at hg;exact hT hg.2.1
theorem TR:prog.cellsOf 5=1:=by kernel_rfl
theorem Qf:(prog.info? 198).map (·.size)=some 2:=by kernel_rfl
theorem Um(b:Nat)(w:World)(h0:w.cell? ⟨b,0,none⟩=some (.pointer (some ⟨b,0,none⟩))) :
 Calls prog 210 #[.pointer (some ⟨b,0,none⟩)] w λe w'=>e = .returned (.tuple #[])/\w'=w:=by
 obtain⟨j,hj,_⟩:=Option.map_eq_some_iff.1 Qf;go_enter func210,ntmps210;go_wp2;rw[Lib.run_neq_ptr_same w _ underlying195 hj];go_wp2;go_end0;exact⟨rfl,rfl⟩
theorem Ul{T:TypeId}(hT:BldT T)(b:Nat)(w:World)(h0:w.cell? ⟨b,0,none⟩=some (.pointer none))(N9:w.shape? b=some (T,2))(vq:w.frozen? ⟨b,0,none⟩=false) :
 Calls prog 210 #[.pointer (some ⟨b,0,none⟩)] w λe w'=>e = .returned (.tuple #[])/\w'=w.setCell ⟨b,0,none⟩ (.pointer (some ⟨b,0,none⟩)):=by
 obtain⟨j,hj,Bc⟩:=Option.map_eq_some_iff.1 Qf;go_enter func210,ntmps210;go_wp2;rw[Lib.run_to_unsafe w ⟨b,0,none⟩ underlying195 underlying325 hj (by rw[Bc];decide) N9 (Nat.zero_lt_succ 1)];simp only[Result.andThen];rw[Oper.upon_value];go_wp2;rw[run_callFunc_extern func283 (by kernel_rfl) (by kernel_rfl) (by kernel_rfl) (e:=Extern.AbiNoEscape.same) (by kernel_rfl)];rw[Lib.run_noEscape];simp only[Result.andThen];rw[Oper.upon_value];go_wp2;rw[Lib.run_from_unsafe w ⟨b,0,none⟩ underlying325 underlying195 hj N9 hT.lies];simp only[Result.andThen];rw[Oper.upon_value];go_wp2;go_end0;exact⟨rfl,rfl⟩
def Used(T:TypeId)(B b:Nat)(r:Option Nat)(l:List UInt8)(w:World):Prop:=
 ∃ v,B<=b/\w.heap[b]?=some (.cells #[.pointer (some ⟨b,0,none⟩),v] T (0,0))/\w.ownsRow B 5 1 v l.length (Lib.byteCells l)/\v.ownBlock=r/\r≠some b/\(l = []->v = .slice none 0 0)
theorem Mc{T:TypeId}(hT:BldT T)(B b:Nat)(r:Option Nat)(l:List UInt8)(w:World)(h:Bld T B b r l w) :
 Calls prog 210 #[.pointer (some ⟨b,0,none⟩)] w λe w'=>e = .returned (.tuple #[])/\Used T B b r l w'/\BS b r w r w':=by
 obtain⟨p,v,hp,hB,hb,ho,hr,hne,hn⟩:=h;have aa:=(eQ.1 hb).1;rcases hp with rfl | rfl
 ·refine (Ul hT b w (by rw[Lib.cell_of_heap hb];rfl) (by simp[World.shape?,hb]) (Lib.frozen_of_heap hb 0)).mono ?_;rintro e w' ⟨rfl,rfl⟩;refine⟨rfl,⟨v,hB,?_,?_,hr,hne,hn⟩,⟨rfl,rfl,rfl,by simp[World.setCell],λk _ hk _=>wQ _ _ _ _ hk,.inl rfl⟩⟩
  ·simp[World.setCell,Array.getElem?_modify,hb]
  ·exact gY ho (λg hg=>wQ _ _ _ _ (λe=>by rw[hr] at hg;exact hne (by rw[hg];simpa using e)))
 ·refine (Um b w (by rw[Lib.cell_of_heap hb];rfl)).mono ?_;rintro e w' ⟨rfl,rfl⟩;exact⟨rfl,⟨v,hB,hb,ho,hr,hne,hn⟩,BS.refl _ _ _⟩
theorem QJ{T:TypeId}(hT:BldT T){B b:Nat}{r:Option Nat}{w1 w2:World}{v v':Value}{l':List UInt8}(hB:B<=b)(ae:w2.heap[b]?=some (.cells #[.pointer (some ⟨b,0,none⟩),v] T (0,0)))
 (ho:w2.ownsRow B 5 1 v' l'.length (Lib.byteCells l')) (an:w1.heap.size<=w2.heap.size) (rL:∀ k,k<w1.heap.size->k≠b->r≠some k->w2.heap[k]?=w1.heap[k]?) (tA:w2.os=w1.os/\w2.tape=w1.tape/\w2.output=w1.output)
 (hat:v'.ownBlock=r\/∃ k,w1.heap.size<=k/\v'.ownBlock=some k) (hn:l' = []->v' = .slice none 0 0) :
 Bld T B b v'.ownBlock l' (w2.setCell ⟨b,1,none⟩ v')/\BS b r w1 v'.ownBlock (w2.setCell ⟨b,1,none⟩ v'):=by
 have hne:=ZB ho ae hT.ne;refine⟨⟨_,v',.inr rfl,hB,?_,?_,rfl,hne,hn⟩,⟨tA.1,tA.2.1,tA.2.2,by simpa [World.setCell] using an,λk hk h1 h2=>(wQ _ _ _ _ h1).trans (rL k hk h1 h2),hat⟩⟩
 ·simp[World.setCell,Array.getElem?_modify,ae]
 ·exact gY ho (λg hg=>wQ _ _ _ _ (λe=>hne (by rw[hg];simpa using e)))
def yO(T:TypeId)(B b:Nat)(r:Option Nat)(l:List UInt8)(v:Value)(w:World)(e:Ending)(w':World):Prop:=e = .returned v/\∃ r',Bld T B b r' l w'/\BS b r w r' w'
theorem aAJ{T:TypeId}(hT:BldT T)(B b:Nat)(r:Option Nat)(l:List UInt8)(c:UInt8)(w:World)(h:Bld T B b r l w)(hl:l.length<=100000000)(ig:B<=w.heap.size) :
 Calls prog 130 #[.pointer (some ⟨b,0,none⟩),.int .u8 c.toNat] w (yO T B b r (l ++ [c]) .nilIface w):=by
 obtain⟨i0,hi,db,bk,aK⟩:=info_parts Tryz.infoByte;have H:=jq h;clear h;go_enter func130,ntmps130;go_wp2_with fail;refine (Mc hT B b r l _ H.out).mono ?_;rintro e w1 ⟨rfl,⟨v,hB,ry,hown,hr,hne,_⟩,bp⟩;have c1:w1.cell? ⟨b,1,none⟩=some v:=by rw[Lib.cell_of_heap ry];rfl
 have aa:b<w1.heap.size:=(eQ.1 ry).1;have HO:=jq hown;have yS:=jq ry;have HR:=jq hr;have fz:=jq bp;have tH:=bp.size;clear hown ry hr bp;go_wp2_with (at_builtin;refine wpList_append_own_at _ rfl _ _ 196 rfl B 5 i0 (.int .u8 0) 1 1 underlying196 hi db bk aK rfl (by decide) _ _ _ rfl (HO.out.alloc _) ⟨w1.heap.size,0,none⟩ 1 1 [.int .u8 c.toNat] rfl rfl (cell_one_new _ _ _) (by simp[Value.oneCell']) (by unfold maxLen;omega) (by omega) (by simp;omega) ?_;intro v' w2 pM AY DO hat;have H2:=jq (And.intro pM (And.intro AY hat));clear pM AY hat DO;have ae:w2.heap[b]?=some (.cells #[.pointer (some ⟨b,0,none⟩),v] T (0,0)):=(by rw[H2.out.2.1.block b (by simp;omega) (λe=>hne (HR.out.symm.trans e.symm)),Lib.alloc_old w1 _ b aa];exact yS.out);have d1:w2.cell? ⟨b,1,none⟩=some v:=(by rw[Lib.cell_of_heap ae];rfl);have f1:w2.frozen? ⟨b,1,none⟩=false:=Lib.frozen_of_heap ae 1;have ai:=jq ae;clear ae;obtain⟨ao,cap,rfl⟩:=yr H2.out.1);go_ret;obtain⟨o2,g2,a2⟩:=H2.out;have tf:=QJ hT (r:=r) (w1:=w1) (l':=l ++ [c]) hB ai.out (by simpa [Lib.byteCells] using o2) (by have:=g2.size;simp at this;omega) (λk hk h1 h2=>by rw[g2.block k (by simp;omega) (λe=>h2 (HR.out.symm.trans e.symm)),Lib.alloc_old w1 _ k hk]) ⟨g2.os,g2.tape,g2.output⟩ (by
  rcases a2 with a2 | a2
  ·exact .inl (a2.trans HR.out)
  ·exact .inr ⟨_,by simp,a2⟩) (by simp)
 exact⟨rfl,_,tf.1,fz.out.trans tf.2⟩
theorem JZ{T:TypeId}(hT:BldT T)(B b:Nat)(r:Option Nat)(l:List UInt8)(s:ByteArray)(w:World)(h:Bld T B b r l w)(hl:l.length<=100000000)(hs:s.size<=100000000)(ig:B<=w.heap.size) :
 Calls prog 129 #[.pointer (some ⟨b,0,none⟩),.string s] w (yO T B b r (l++s.data.toList) (.tuple #[.int .i64 s.size,.nilIface]) w):=by
 obtain⟨i0,hi,db,bk,aK⟩:=info_parts Tryz.infoByte;have H:=jq h;clear h;go_enter func129,ntmps129;go_wp2_with fail;refine (Mc hT B b r l _ H.out).mono ?_;rintro e w1 ⟨rfl,⟨v,hB,ry,hown,hr,hne,DO⟩,bp⟩;have c1:w1.cell? ⟨b,1,none⟩=some v:=by rw[Lib.cell_of_heap ry];rfl
 have aa:b<w1.heap.size:=(eQ.1 ry).1;have HO:=jq hown;have yS:=jq ry;have HR:=jq hr;have fz:=jq bp;have HN:=jq DO;have tH:=bp.size;clear hown ry hr bp DO;go_wp2_with (at_builtin;refine ayX _ rfl _ _ 196 9 rfl B 5 i0 underlying196 underlying9 hi db bk aK _ _ _ rfl HO.out s rfl (by unfold maxLen;omega) (by omega) (by omega) ?_;intro v' w2 pM AY hat vH;have H2:=jq (And.intro pM (And.intro AY hat));have dh:=jq vH;clear pM AY hat vH;have ae:w2.heap[b]?=some (.cells #[.pointer (some ⟨b,0,none⟩),v] T (0,0)):=(by rw[H2.out.2.1.block b aa (λe=>hne (HR.out.symm.trans e.symm))];exact yS.out);have d1:w2.cell? ⟨b,1,none⟩=some v:=(by rw[Lib.cell_of_heap ae];rfl);have f1:w2.frozen? ⟨b,1,none⟩=false:=Lib.frozen_of_heap ae 1;have ai:=jq ae;clear ae;obtain⟨ao,cap,rfl⟩:=yr H2.out.1);go_ret2;obtain⟨o2,g2,a2⟩:=H2.out;have tf:=QJ hT (r:=r) (w1:=w1) (l':=l++s.data.toList) hB ai.out (by simpa [Lib.byteCells,Lib.strCells] using o2) g2.size (λk hk h1 h2=>g2.block k hk (λe=>h2 (HR.out.symm.trans e.symm))) ⟨g2.os,g2.tape,g2.output⟩ (by
  rcases a2 with a2 | a2
  ·exact .inl (a2.trans HR.out)
  ·exact .inr ⟨_,bQ _,a2⟩) (by
  intro h0;have h1:=List.append_eq_nil_iff.1 h0;exact dh.out.2 ⟨HN.out h1.1,by rw[<-aX,h1.2];rfl⟩)
 exact⟨rfl,_,tf.1,fz.out.trans tf.2⟩
def uc(T:TypeId)(B b:Nat)(l:List UInt8)(w:World):Prop:=
 ∃ p v,B<=b/\w.heap[b]?=some (.cells #[p,v] T (0,0))/\((v = .slice none 0 0/\l = [])\/∃ g cap cur fr,v = .slice (some ⟨g,0,none⟩) l.length cap/\l≠[]/\B<=g/\g≠b/\w.heap[g]?=some (.cells cur 5 fr)/\l.length<=cur.size/\l.length<=cap/\l.length<=9223372036854775807/\cur.toList.take l.length=Lib.byteCells l)
theorem Bld.read{T:TypeId}{B b:Nat}{r:Option Nat}{l:List UInt8}{w:World}(h:Bld T B b r l w):uc T B b l w:=by
 obtain⟨p,v,_,hB,hb,ho,hr,hne,hn⟩:=h;refine⟨p,v,hB,hb,?_⟩;by_cases h0:l = []
 ·exact .inl ⟨hn h0,h0⟩
 ·right;rcases ho.2 with ⟨_,h1⟩ | ⟨g,cap,cur,rfl,M4,hg,nI,fZ,hcs,ht⟩
  ·exact absurd (rQ h1) h0
  ·refine⟨g,cap,cur,_,rfl,h0,M4,λe=>hne ?_,hg,by omega,nI,by unfold maxLen at fZ;omega,by simpa using ht⟩;rw[<-hr,e];rfl
theorem uc.keep{T:TypeId}{B b:Nat}{l:List UInt8}{w w':World}(h:uc T B b l w)(hb:Below w.heap.size w w'):uc T B b l w':=by
 obtain⟨p,v,hB,hh,hv⟩:=h;refine⟨p,v,hB,(hb.block b (eQ.1 hh).1).trans hh,?_⟩;rcases hv with hv | ⟨g,cap,cur,fr,h1,h2,h3,h4,h5,h6⟩
 ·exact .inl hv
 ·exact .inr ⟨g,cap,cur,fr,h1,h2,h3,h4,(hb.block g (eQ.1 h5).1).trans h5,h6⟩
theorem U9{w:World}{g n k:Nat}(h:k≠g):(w.freeze ⟨g,0,none⟩ n).heap[k]?=w.heap[k]?:=by
 unfold World.freeze;split
 ·rfl
 ·simp only[Array.getElem?_modify];rw[Qc (Ne.symm h)]
theorem U8{w:World}{g n:Nat}{cur:Array Value}{t:TypeId}{fr:Nat×Nat}(h:w.heap[g]?=some (.cells cur t fr)):∃ fr',(w.freeze ⟨g,0,none⟩ n).heap[g]?=some (.cells cur t fr'):=by
 unfold World.freeze;split
 ·exact⟨fr,h⟩
 ·simp only[Array.getElem?_modify,if_true,h];obtain⟨lo,hi⟩:=fr;exact⟨_,rfl⟩
theorem Qt{T:TypeId}(B b:Nat)(l:List UInt8)(w:World)(h:uc T B b l w) :
 Calls prog 134 #[.pointer (some ⟨b,0,none⟩)] w λe w'=>e = .returned (av l)/\uc T B b l w'/\Below B w w':=by
 obtain⟨p,v,hB,hb,hv⟩:=h;rcases hv with ⟨rfl,rfl⟩ | ⟨g,cap,cur,fr,rfl,h0,GW,dU,hg,NF,V4,ki,ht⟩
 ·have c1:w.drew.cell? ⟨b,1,none⟩=some (.slice none 0 0):=by
   have:w.drew.heap[b]?=some (.cells #[p,.slice none 0 0] T (0,0)):=hb
   rw[Lib.cell_of_heap this];rfl
  have VC:∀ W q,(Builtin.unsafeString_ #[271,3] 9 #[.pointer q,.int .i64 0]).run prog W = .ok (.string .empty) W:=λW q=>Lib.run_unsafeString_none W _ _ _ q;have gw:(Builtin.unsafeSliceData_ #[196] 271 #[.slice none 0 0]).run prog w.drew = .ok (.pointer none) w.drew:=rfl;have HB:=jq hb;clear hb;go_enter func134,ntmps134;go_wp2;go_region
  all_goals (go_wp2;go_ret;exact⟨rfl,⟨p,_,hB,HB.out,.inl ⟨rfl,rfl⟩⟩,(vQ _ _).drew⟩)
 ·have c1:w.drew.cell? ⟨b,1,none⟩=some (.slice (some ⟨g,0,none⟩) l.length cap):=by
   have:w.drew.heap[b]?=some (.cells #[p,.slice (some ⟨g,0,none⟩) l.length cap] T (0,0)):=hb
   rw[Lib.cell_of_heap this];rfl
  have qG:l.length≠0:=by simpa using h0
  have gw:(Builtin.unsafeSliceData_ #[196] 271 #[.slice (some ⟨g,0,none⟩) l.length cap]).run prog w.drew = .ok (.pointer (some ⟨g,0,none⟩)) w.drew:=
   Lib.run_unsafeSliceData_row _ _ _ _ _ _ (by omega)
  have hg':w.drew.heap[g]?=some (.cells cur 5 fr):=hg;have VC:(Builtin.unsafeString_ #[271,3] 9 #[.pointer (some ⟨g,0,none⟩),.int .i64 l.length]).run prog w.drew = .ok (.string ⟨l.toArray⟩) (w.drew.freeze ⟨g,0,none⟩ l.length):=by
   refine Lib.run_unsafeString_row w.drew 271 3 9 5 underlying271 TR g cur.size (by simp[World.shape?,hg']) l h0 NF ki ?_;intro j x hx;have oJ:(⟨g,0,none⟩:Addr).add j=⟨g,j,none⟩:=by unfold Addr.add;split <;> simp_all
   rw[oJ,Lib.cell_of_heap hg'];have h1:(Lib.byteCells l)[j]?=some (.int .u8 x.toNat):=by simp[Lib.byteCells,hx]
   rw[<-ht,List.getElem?_take] at h1;split at h1
   ·simpa using h1
   ·cases h1
  have HF:Hid (uc T B b l (w.drew.freeze ⟨g,0,none⟩ l.length)/\Below B w (w.drew.freeze ⟨g,0,none⟩ l.length)):=by
   obtain⟨fr',fH⟩:=U8 (n:=l.length) hg';exact jq ⟨⟨p,_,hB,(U9 (Ne.symm dU)).trans hb,.inr ⟨g,cap,cur,fr',rfl,h0,GW,dU,fH,NF,V4,ki,ht⟩⟩,Lib.below_freeze (Below.drew (vQ B w)) (p:=⟨g,0,none⟩) GW _⟩
  clear hb hg hg' ht;go_enter func134,ntmps134;go_wp2;go_region
  all_goals (go_wp2;go_ret;exact⟨rfl,HF.out⟩)
def Gw(b:Nat)(r:Option Nat)(w:World)(v:Value)(ws:List (List UInt8)):Prop:=
 ∃ A c,v = .slice A ws.length c/\ws.length<=c/\ws.length<=1000000/\∀ i x,ws[i]?=some x->∃ g o,A=some ⟨g,o,none⟩/\g<w.heap.size/\g≠b/\r≠some g/\w.cell? ⟨g,o+i,none⟩=some (av x)
theorem Gw.step{b:Nat}{r r':Option Nat}{w w':World}{v:Value}{ws:List (List UInt8)}(h:Gw b r w v ws)(hs:BS b r w r' w'):Gw b r' w' v ws:=by
 obtain⟨A,c,h1,h2,h3,h4⟩:=h;refine⟨A,c,h1,h2,h3,λi x hx=>?_⟩;obtain⟨g,o,h5,h6,h7,h8,h9⟩:=h4 i x hx;exact⟨g,o,h5,lQ h6 hs.size,h7,hs.free h6 h8,(hs.cell h6 h7 h8 _).trans h9⟩
theorem JY{T:TypeId}(hT:BldT T)(B b:Nat)(r:Option Nat)(l:List UInt8)(c:UInt8)(k:Int)(hk:(c.toNat:Int)=k)(w:World)(h:Bld T B b r l w)(hl:l.length<=100000000)(ig:B<=w.heap.size) :
 Calls prog 130 #[.pointer (some ⟨b,0,none⟩),.int .u8 k] w (yO T B b r (l ++ [c]) .nilIface w):=by
 subst hk;exact aAJ hT B b r l c w h hl ig
def fK(w:World):Prop:=Lib.TabIs prog w "internal/strconv.uint64pow10" .u64 Lib.pow10Tab
theorem GP:prog.globalNamed "internal/strconv.uint64pow10" = some 1:=by kernel_rfl
theorem fK.lt{w:World}(h:fK w):1<w.heap.size:=by
 unfold fK Lib.TabIs World.var? at h;rw[GP] at h;simp only[Option.bind_some] at h
 cases hh:w.heap[1]? with
 | none=>rw[hh] at h;cases h
 | some o=>exact (eQ.1 hh).1
theorem fK.keepAt{w w':World}{n:Nat}(h:fK w)(hb:Below n w w')(hn:1<n):fK w':=by
 unfold fK Lib.TabIs World.var? at h |-;rw[GP] at h |-;simp only[Option.bind_some] at h |-;rw[hb.block _ hn];exact h
theorem fK.keep{w w':World}(h:fK w)(hb:Below w.heap.size w w'):fK w':=h.keepAt hb h.lt
theorem Mm:∀ n:Nat,Lib.decDigits n=Np.nt n:=by
 intro n
 induction n using Nat.strongRecOn with
 | ind n ih=>
  rw[Lib.decDigits,Np.nt];split
  ·rfl
  ·rw[ih (n / 10) (by omega)]
theorem ON(n:Int)(h0:0<=n)(h1:n<=9223372036854775807)(w:World)(hP:fK w) :
 Calls prog 132 #[.int .i64 n] w (aFQ w.heap.size w (av (Np.aV n))):=
 (Tryz.strconv_Itoa n (by omega) (by omega) w hP).mono λe w' ⟨he,k,os,hw⟩=>by
   refine⟨?_,?_⟩
   ·rw[he,Lib.itoa,Qc (by omega),Mm];rfl
   ·rw[hw];exact Lib.below_grow _ w (bQ _) k os
theorem MG(n:Int)(h0:0<=n)(h1:n<18446744073709551616)(w:World)(hP:fK w) :
 Calls prog 133 #[.int .u64 n,.int .i64 10] w (aFQ w.heap.size w (av (Np.aV n))):=by
 obtain⟨u,rfl⟩:∃ u:Nat,n=u:=⟨n.toNat,by omega⟩;refine (U5 u (by omega) w hP).mono λe w' ⟨he,k,os,hw⟩=>⟨?_,?_⟩
 ·rw[he,Mm];rfl
 ·rw[hw];exact Lib.below_grow _ w (bQ _) k os
theorem uS{n:Int}(h1:n<18446744073709551616):(Np.aV n).length<=20:=Np.UA 19 n.toNat (by omega)
theorem UC(a b:List (List UInt8)):Np.cx (a++b)=Np.cx a++Np.cx b:=by simp[Np.cx]
theorem Jm:∀ (ns:List Int) (s:List UInt8),s++(ns.flatMap λn=>47::Np.aV n) ++ [47]=Np.cx (s::ns.map Np.aV)
 | [],s=>by simp[Np.cx]
 | n::ns,s=>by
   rw[Np.xL,List.map_cons,<-Jm ns (Np.aV n)];simp
theorem Pz:∀ (ns:List Int) (s:List UInt8),(∀ n∈ns,n<18446744073709551616)->(s++(ns.flatMap λn=>47::Np.aV n) ++ [47]).length<=s.length+1+21 * ns.length
 | [],s,_=>by simp
 | n::ns,s,h=>by
   have:=Pz ns s (λm hm=>h m (mQ _ hm))
   have h2:=uS (h n (by simp));simp at this |-;omega
theorem xH:BldT 198:=⟨by kernel_rfl,by decide⟩
def kN(b:Nat)(r:Option Nat)(w:World)(v:Value)(ns:List Int):Prop:=
 ∃ A c,v = .slice A ns.length c/\ns.length<=c/\∀ i x,ns[i]?=some x->∃ g o,A=some ⟨g,o,none⟩/\g<w.heap.size/\g≠b/\r≠some g/\w.cell? ⟨g,o+i,none⟩=some (.int .i64 x)
theorem kN.step{b:Nat}{r r':Option Nat}{w w':World}{v:Value}{ns:List Int}(h:kN b r w v ns)(hs:BS b r w r' w'):kN b r' w' v ns:=by
 obtain⟨A,c,h1,h2,h4⟩:=h;refine⟨A,c,h1,h2,λi x hx=>?_⟩;obtain⟨g,o,h5,h6,h7,h8,h9⟩:=h4 i x hx;exact⟨g,o,h5,lQ h6 hs.size,h7,hs.free h6 h8,(hs.cell h6 h7 h8 _).trans h9⟩
theorem kN.nil(b:Nat)(r:Option Nat)(w:World):kN b r w (.slice none 0 0) []:=⟨none,0,rfl,bQ _,λi x h=>by simp at h⟩
def qP(ns:List Int):List UInt8:=ns.flatMap λn=>47::Np.aV n
theorem Zu{ns:List Int}{k:Nat}{x:Int}(hx:ns[k]?=some x):qP (ns.take (k+1))=qP (ns.take k) ++ [47]++Np.aV x:=by
 obtain⟨hl,he⟩:=cQ.1 hx;rw[fQ hl,he];simp[qP]
theorem Pd:∀ (ns:List Int),(∀ n∈ns,n<18446744073709551616)->(qP ns).length<=21 * ns.length
 | [],_=>by simp[qP]
 | n::ns,h=>by
   have:=Pd ns (λm hm=>h m (mQ _ hm))
   have h2:=uS (h n (by simp));simp[qP] at this |-;omega
theorem Eo(B b:Nat)(r:Option Nat)(l:List UInt8)(s:ByteArray)(v:Value)(ns:List Int)(w:World)(h:Bld 198 B b r l w)(hv:kN b r w v ns)(hn:∀ n∈ns,0<=n/\n<=9223372036854775807)(hl:l.length<=10000000)(hs:s.size<=100000)(vH:ns.length<=100)(ig:B<=w.heap.size)(hP:fK w)(Vz:1<B) :
 Calls prog 217 #[.string s,v,.pointer (some ⟨b,0,none⟩)] w (yO 198 B b r (l++Np.cx (s.data.toList::ns.map Np.aV)) (.tuple #[]) w):=by
 have H:=jq h;have HV:=jq hv;have HP:=jq hP;have HN:=jq hn;have gF:=jq h.row.1;have ng:=jq h.row.2.2;obtain⟨A,c,rfl,hc,-⟩:=hv;obtain⟨m,hm⟩:=aCQ ns.length;rw[hm] at vH;have HM:=jq hm;have FP:Hid (∀ k,(qP (ns.take k)).length<=2100):=jq (λk=>by
  have h1:=Pd (ns.take k) (λn hn'=>by have:=HN.out n (List.mem_of_mem_take hn');omega);rw[List.length_take] at h1;have h2:=HM.out;omega)
 have cY:s.data.toList.length=s.size:=aX s;have kI:=jq cY;clear h hn hP cY;rw[hm] at HV |-;clear hm hc;go_enter func217,ntmps217;go_wp2_with fail;refine (JZ xH B b r _ s _ H.out (by omega) (by omega) ig).mono ?_;rintro e w1 ⟨rfl,r1,aB,bp⟩;have aq:=jq aB;have fz:=jq bp;have tH:=bp.size;clear aB bp;go_wp2_with fail;go_loopw [11] (λi wr=>∃ (k:Nat) (r':Option Nat),k<=m/\i = .int .i64 k/\Hid (Bld 198 B b r' (l++s.data.toList++qP (ns.take k)) wr)/\Hid (BS b r w r' wr)/\Hid (kN b r' wr (.slice A m c) ns)) (λi _=>m - (intOf i).toNat)
 case atStart=>exact⟨0,r1,jQ _,rfl,jq (by simpa [qP] using aq.out),fz,jq (HV.out.step fz.out)⟩
 case round=>
  obtain⟨k,r',hk,rfl,HB,HS,HX⟩:=hrel;have an:=HS.out.size;have fy:Hid (Below B w wr):=jq (HS.out.below gF.out (λk hk=>(ng.out k hk).1) ig);by_cases aa:k<m
  ·obtain⟨x,ac⟩:∃ x,ns[k]?=some x:=⟨_,aQ (by rw[HM.out];exact aa)⟩;obtain⟨A',c',hA,_,bX⟩:=HX.out;simp only[Value.slice.injEq] at hA;obtain⟨rfl,-,rfl⟩:=hA;obtain⟨g,o,rfl,hg,dU,DI,hcell⟩:=bX k _ ac;have HJ:=jq (Zu ac);have Ow:=HN.out x (gQ ac);have Gp:=jq Ow;have Xa:=FP.out k;have aMQ:=FP.out (k+1);clear bX ac Ow;go_wp2_with fail;refine (JY xH B b r' _ 47 47 rfl _ HB.out (by simp;omega) (by omega)).mono ?_;rintro e w2 ⟨rfl,r2,ae,iX⟩;have ai:=jq ae;have jz:=jq iX;have ku:=iX.size;clear ae iX;go_wp2_with fail;refine (ON x Gp.out.1 Gp.out.2 w2 (HP.out.keepAt (fy.out.trans (jz.out.below gF.out (λk hk=>(HB.out.row.2.2 k hk).1) (by omega))) Vz)).mono ?_;rintro e w3 ⟨rfl,al⟩;have am:=jq (ai.out.keep al);have zq:=jq (jz.out.after al);have lj:=al.size;clear al;go_wp2_with fail;refine (JZ xH B b r2 _ ⟨(Np.aV x).toArray⟩ _ am.out (by simp;omega) (by rw[<-aX];have:=uS (n:=x) (by have:=Gp.out;omega);simp;omega) (by omega)).mono ?_;rintro e w4 ⟨rfl,r4,aw,IF⟩;have aP:=jq aw;have K4:=jq (zq.out.trans IF);clear aw IF;go_wp2_with fail;go_roundw
   case rel=>exact⟨k+1,r4,by omega,by go_num,jq (by have:=aP.out;rw[HJ.out];simpa using this),jq (HS.out.trans K4.out),jq (HX.out.step K4.out)⟩
   case measure=>simp[intOf] <;> omega
  ·have Xa:=FP.out k;have bZ:Hid (ns.take k=ns):=jq (kQ (by rw[HM.out];omega));go_wp2_with fail;refine (JY xH B b r' _ 47 47 rfl _ HB.out (by simp;omega) (by omega)).mono ?_;rintro e w2 ⟨rfl,r2,ae,iX⟩;have ai:=jq ae;have jz:=jq (HS.out.trans iX);clear ae iX;go_wp2_with fail;go_end0;refine⟨rfl,r2,?_,jz.out⟩
   have:=ai.out
   rw[bZ.out] at this;rw[<-Jm];simpa [qP] using this
end
section
open Go.RowKit Go.MapKept
def pK(p:List UInt8×Int×List UInt8):Value:=.agg #[av p.1,.int .i64 p.2.1,av p.2.2]
def kc(r:Nat)(kvs:List ((List UInt8×Int×List UInt8)×Value))(w:World):Prop:=∃ es,w.heap[r]?=some (.map es es.size)/\es.toList.map (λe=>(e.key,e.val))=kvs.map (λp=>(pK p.1,p.2))/\∀ (i:Nat) (e:MapEntry),es[i]?=some e->e.born=i
theorem kc.lt{r:Nat}{kvs:List ((List UInt8×Int×List UInt8)×Value)}{w:World}(h:kc r kvs w):r<w.heap.size:=by
 obtain⟨es,h,_⟩:=h;exact (eQ.1 h).1
theorem kc.keep{r:Nat}{kvs:List ((List UInt8×Int×List UInt8)×Value)}{w w':World}{n:Nat}(h:kc r kvs w)(hb:Below n w w')(hn:r<n):kc r kvs w':=by
 obtain⟨es,h,h2⟩:=h;exact⟨es,(hb.block r hn).trans h,h2⟩
theorem kc.keep'{r:Nat}{kvs:List ((List UInt8×Int×List UInt8)×Value)}{w w':World}(h:kc r kvs w)(hb:w'.heap[r]?=w.heap[r]?):kc r kvs w':=by
 obtain⟨es,h,h2⟩:=h;exact⟨es,hb.trans h,h2⟩
theorem kc.made(w:World):kc w.heap.size [] (w.alloc (.map #[] 0)):=⟨#[],heap_alloc_new _ _,rfl,λi e h=>by simp at h⟩
theorem UL(p q:List UInt8×Int×List UInt8)(w:World):(Op.equal 221 (pK p) (pK q)).run prog w = .ok (decide (p=q)) w:=by
 obtain⟨a,n,c⟩:=p;obtain⟨b,m,d⟩:=q;have u3:=underlying3;have a3:=isAgg3;have z3:=sizeOf3;have u9:=underlying9;have a9:=isAgg9;have z9:=sizeOf9;have hS:prog.underlying 221=some (.struct (prog.fieldsOf 221)):=by kernel_rfl
 have hp:prog.stoodInHeld 221=false:=by kernel_rfl
 show (Op.equalIn 10000 221 (.agg #[.string ⟨a.toArray⟩,.int .i64 n,.string ⟨c.toArray⟩]) (.agg #[.string ⟨b.toArray⟩,.int .i64 m,.string ⟨d.toArray⟩])).run prog w=_;rw[show (10000:Nat)=9999+1 from rfl,run_equalIn_agg w 9999 221 _ _ hS hp];simp only[Program.fieldsOf,underlying221];go_simp;by_cases h0:a=b <;> by_cases h1:n=m <;> by_cases h2:c=d <;> simp[h0,h1,h2]
theorem L1(b:Bool)(p:List UInt8×Int×List UInt8)(w:World):(Instr.checkKey b 10000 221 (pK p)).run prog w = .ok () w:=by
 have hS:=underlying221;have hs:∀ s w,(Instr.checkKey b 9999 9 (.string s)).run prog w = .ok () w:=λs w=>MapKept.run_checkKey (k:=.string s) underlying9 (by simp[MapKept.IsKey]) b 9998;have hi:∀ n w,(Instr.checkKey b 9999 3 (.int .i64 n)).run prog w = .ok () w:=λn w=>MapKept.run_checkKey (k:=.int .i64 n) underlying3 (by simp[MapKept.IsKey]) b 9998;have a3:=isAgg3;have z3:=sizeOf3;have a9:=isAgg9;have z9:=sizeOf9;rw[show (10000:Nat)=9999+1 from rfl,Instr.checkKey];simp only[pK,av];simp[run_underlying hS,go_sem,Result.andThen,hs,hi]
theorem UW{fs:Array Field}{k:Value}{e:MapEntry}{es:List MapEntry}(i:Nat):Instr.findNow (.struct fs) k (e::es) i=none:=by
 simp only[Instr.findNow];rfl
theorem LR(p:List UInt8×Int×List UInt8)(w:World):∀ (es:List MapEntry) (kvs:List ((List UInt8×Int×List UInt8)×Value)) (i:Nat),es.map (λe=>(e.key,e.val))=kvs.map (λq=>(pK q.1,q.2))->
 (∀ v,kvs.lookup p=some v->∃ j,(es[j]?).map (λe=>(e.key,e.val))=some (pK p,v)/\kvs[j]?=some (p,v)/\(Instr.findAsking 221 (pK p) es i).run prog w = .ok (some (i+j,v)) w)/\(kvs.lookup p=none->(Instr.findAsking 221 (pK p) es i).run prog w = .ok none w)
 | [],kvs,i,h=>by
   cases kvs with
   | nil=>exact⟨λv h=>by simp at h,λ_=>by rw[Instr.findAsking];rfl⟩
   | cons=>simp at h
 | e::es,kvs,i,h=>by
   cases kvs with
   | nil=>simp at h
   | cons q kvs=>
    obtain⟨q,u⟩:=q;simp only[List.map_cons,List.cons.injEq,Prod.mk.injEq] at h;obtain⟨⟨h1,h2⟩,h3⟩:=h;obtain⟨i1,i2⟩:=LR p w es kvs (i+1) h3;have hq:=UL p q w;rw[<-h1] at hq;by_cases jl:p=q
    ·have hd:decide (p=q)=true:=by simpa using jl
     rw[hd] at hq;have hr:(Instr.findAsking 221 (pK p) (e::es) i).run prog w = .ok (some (i,u)) w:=by
      rw[Instr.findAsking];simp[hq,h2]
     subst jl;refine⟨λv hv=>⟨0,?_,?_,?_⟩,λhn=>?_⟩
     ·rw[List.lookup_cons_self] at hv;cases hv;simp[h1,h2]
     ·rw[List.lookup_cons_self] at hv;cases hv;rfl
     ·rw[List.lookup_cons_self] at hv;cases hv;exact hr
     ·rw[List.lookup_cons_self] at hn;cases hn
    ·have hd:decide (p=q)=false:=by simpa using jl
     rw[hd] at hq;have hb:(p == q)=false:=by simpa using jl
     have hr:(Instr.findAsking 221 (pK p) (e::es) i).run prog w=(Instr.findAsking 221 (pK p) es (i+1)).run prog w:=by
      rw[Instr.findAsking];simp[hq]
     have hl:((q,u)::kvs).lookup p=kvs.lookup p:=by rw[List.lookup_cons,hb]
     rw[hr,hl];refine⟨λv hv=>?_,i2⟩;obtain⟨j,j1,j2,j3⟩:=i1 v hv;exact⟨j+1,by simpa using j1,by simpa using j2,by rw[show i+(j+1)=i+1+j by omega];exact j3⟩
theorem My(p:List UInt8×Int×List UInt8)(w:World)(es:List MapEntry)(kvs:List ((List UInt8×Int×List UInt8)×Value))(h:es.map (λe=>(e.key,e.val))=kvs.map (λq=>(pK q.1,q.2))) :
 (∀ v,kvs.lookup p=some v->∃ j,(es[j]?).map (λe=>(e.key,e.val))=some (pK p,v)/\kvs[j]?=some (p,v)/\(Instr.findKey 221 (pK p) es).run prog w = .ok (some (j,v)) w)/\(kvs.lookup p=none->(Instr.findKey 221 (pK p) es).run prog w = .ok none w):=by
 have hS:=underlying221
 cases es with
 | nil=>
  cases kvs with
  | nil=>exact⟨λv h=>by simp at h,λ_=>by simp[Instr.findKey,run_underlying hS,Instr.findNow]⟩
  | cons=>simp at h
 | cons e es=>
  obtain⟨i1,i2⟩:=LR p w (e::es) kvs 0 h;have hr:(Instr.findKey 221 (pK p) (e::es)).run prog w=(Instr.findAsking 221 (pK p) (e::es) 0).run prog w:=by
   simp[Instr.findKey,run_underlying hS,UW]
  rw[hr];refine⟨λv hv=>?_,i2⟩;obtain⟨j,j1,j2,j3⟩:=i1 v hv;exact⟨j,j1,j2,by rw[j3,Nat.zero_add]⟩
theorem akQ(w:World)(t et:TypeId)(ht:prog.underlying t=some (.map 221 et))(r:Nat)(kvs:List ((List UInt8×Int×List UInt8)×Value))(hr:kc r kvs w)(p:List UInt8×Int×List UInt8)(z:Value)(hz:(zeroValue et).run prog w = .ok z w) :
 (Instr.lookup t (.map (some r)) (pK p) false).run prog w = .ok ((kvs.lookup p).getD z) w:=by
 obtain⟨es,hr,he,_⟩:=hr;have hf:=My p w es.toList kvs he;have hc:∀ b,(Instr.checkKey b 10000 221 (pK p)).run prog w = .ok () w:=λb=>L1 b p w
 cases hl:kvs.lookup p with
 | none=>simp[Instr.lookup,run_underlying ht,MapKept.run_getObj_map hr,hc,hf.2 hl,Result.andThen,hz]
 | some v=>
  obtain⟨j,_,_,hj⟩:=hf.1 v hl;simp[Instr.lookup,run_underlying ht,MapKept.run_getObj_map hr,hc,hj,Result.andThen]
theorem TJ(a:ByteArray):(a == a)=true:=by
 show (a.data == a.data)=true;simp
theorem apZ(p:List UInt8×Int×List UInt8)(w:World):(Instr.keyThatStays (pK p) (pK p)).run prog w = .ok (pK p) w:=by
 have hs:Instr.sameBits 10000 (pK p) (pK p)=true:=by
  show Instr.sameBits (9999+1) (pK p) (pK p)=true;simp only[pK,av,Instr.sameBits];simp[Instr.sameBits,TJ]
 simp[Instr.keyThatStays,hs]
theorem alQ(w:World)(t et:TypeId)(ht:prog.underlying t=some (.map 221 et))(r:Nat)(kvs:List ((List UInt8×Int×List UInt8)×Value))(hr:kc r kvs w)(p:List UInt8×Int×List UInt8)(val:Value)(hl:kvs.lookup p=none\/kvs.lookup p=some val) :
 ∃ w',(Instr.mapUpdate t (.map (some r)) (pK p) val).run prog w = .ok () w'/\kc r (if kvs.lookup p=none then kvs ++ [(p,val)] else kvs) w'/\Turned r w w':=by
 obtain⟨es,hr,he,ik⟩:=hr;have hf:=My p w es.toList kvs he;have hc:(Instr.checkKey false 10000 221 (pK p)).run prog w = .ok () w:=L1 false p w;have aa:r<w.heap.size:=(eQ.1 hr).1;rcases hl with hl | hl
 ·rw[Qb hl];refine⟨{ w with heap:=w.heap.setIfInBounds r (.map (es.push { key:=pK p,val:=val,born:=es.size }) (es.size+1)) },by simp[Instr.mapUpdate,run_underlying ht,MapKept.run_getObj_map hr,hc,hf.2 hl,MapKept.run_setObj_map _ hr,Result.andThen],⟨es.push { key:=pK p,val:=val,born:=es.size },by simp[aa],by simp[he],λi e hi=>?_⟩,⟨rfl,rfl,rfl,by simp,λi hi=>by simp[Ne.symm hi]⟩⟩;rw[Array.getElem?_push] at hi;split at hi
  ·rename_i h1;cases hi;exact h1.symm
  ·exact ik i e hi
 ·have hn:¬ kvs.lookup p=none:=by rw[hl];exact λh=>nomatch h
  rw[Qc hn];obtain⟨j,j1,j2,j3⟩:=hf.1 val hl;have j0:∃ e,es[j]?=some e/\e.key=pK p/\e.val=val:=by
   rw[Array.getElem?_toList] at j1
   cases h0:es[j]? with
   | none=>rw[h0] at j1;simp at j1
   | some e=>rw[h0] at j1;simp only[Option.map_some,Option.some.injEq,Prod.mk.injEq] at j1;exact⟨e,rfl,j1.1,j1.2⟩
  obtain⟨e0,e1,e2,e3⟩:=j0;have jM:(Instr.keyThatStays (((es[j]?).map (·.key)).getD (pK p)) (pK p)).run prog w = .ok (pK p) w:=by
   rw[e1];simp only[Option.map_some,Option.getD_some];rw[e2];exact apZ p w
  have tq:(es.modify j λe=>{ e with key:=pK p,val:=val })=es:=by
   apply Array.ext_getElem?;intro i;rw[Array.getElem?_modify];by_cases dp:j=i
   ·subst dp;rw[Qb rfl,e1]
    cases e0
    subst e2;subst e3;rfl
   ·rw[Qc dp]
  refine⟨w,?_,⟨es,hr,he,ik⟩,⟨rfl,rfl,rfl,rfl,λi hi=>rfl⟩⟩;have oS:w.heap.setIfInBounds r (.map es es.size)=w.heap:=by
   apply Array.ext_getElem?;intro i;rw[Array.getElem?_setIfInBounds];by_cases A7:r=i
   ·subst A7;rw[Qb rfl,Qb aa,hr]
   ·rw[Qc A7]
  simp[Instr.mapUpdate,run_underlying ht,MapKept.run_getObj_map hr,hc,j3,jM,tq,MapKept.run_setObj_map _ hr,oS,Result.andThen]
def pT(p:List UInt8×List UInt8):Value:=.agg #[av p.1,av p.2]
def iP(r:Nat)(kvs:List ((List UInt8×List UInt8)×Value))(w:World):Prop:=∃ es,w.heap[r]?=some (.map es es.size)/\es.toList.map (λe=>(e.key,e.val))=kvs.map (λp=>(pT p.1,p.2))/\∀ (i:Nat) (e:MapEntry),es[i]?=some e->e.born=i
theorem iP.lt{r:Nat}{kvs:List ((List UInt8×List UInt8)×Value)}{w:World}(h:iP r kvs w):r<w.heap.size:=by
 obtain⟨es,h,_⟩:=h;exact (eQ.1 h).1
theorem iP.keep{r:Nat}{kvs:List ((List UInt8×List UInt8)×Value)}{w w':World}{n:Nat}(h:iP r kvs w)(hb:Below n w w')(hn:r<n):iP r kvs w':=by
 obtain⟨es,h,h2⟩:=h;exact⟨es,(hb.block r hn).trans h,h2⟩
theorem iP.keep'{r:Nat}{kvs:List ((List UInt8×List UInt8)×Value)}{w w':World}(h:iP r kvs w)(hb:w'.heap[r]?=w.heap[r]?):iP r kvs w':=by
 obtain⟨es,h,h2⟩:=h;exact⟨es,hb.trans h,h2⟩
theorem iP.made(w:World):iP w.heap.size [] (w.alloc (.map #[] 0)):=⟨#[],heap_alloc_new _ _,rfl,λi e h=>by simp at h⟩
theorem UN(p q:List UInt8×List UInt8)(w:World):(Op.equal 138 (pT p) (pT q)).run prog w = .ok (decide (p=q)) w:=by
 obtain⟨a,n⟩:=p;obtain⟨b,m⟩:=q;have u3:=underlying3;have a3:=isAgg3;have z3:=sizeOf3;have u9:=underlying9;have a9:=isAgg9;have z9:=sizeOf9;have hS:prog.underlying 138=some (.struct (prog.fieldsOf 138)):=by kernel_rfl
 have hp:prog.stoodInHeld 138=false:=by kernel_rfl
 show (Op.equalIn 10000 138 (.agg #[.string ⟨a.toArray⟩,.string ⟨n.toArray⟩]) (.agg #[.string ⟨b.toArray⟩,.string ⟨m.toArray⟩])).run prog w=_;rw[show (10000:Nat)=9999+1 from rfl,run_equalIn_agg w 9999 138 _ _ hS hp];simp only[Program.fieldsOf,underlying138];go_simp;by_cases h0:a=b <;> by_cases h1:n=m <;> simp[h0,h1]
theorem L3(b:Bool)(p:List UInt8×List UInt8)(w:World):(Instr.checkKey b 10000 138 (pT p)).run prog w = .ok () w:=by
 have hS:=underlying138;have hs:∀ s w,(Instr.checkKey b 9999 9 (.string s)).run prog w = .ok () w:=λs w=>MapKept.run_checkKey (k:=.string s) underlying9 (by simp[MapKept.IsKey]) b 9998;have hi:∀ n w,(Instr.checkKey b 9999 3 (.int .i64 n)).run prog w = .ok () w:=λn w=>MapKept.run_checkKey (k:=.int .i64 n) underlying3 (by simp[MapKept.IsKey]) b 9998;have a3:=isAgg3;have z3:=sizeOf3;have a9:=isAgg9;have z9:=sizeOf9;rw[show (10000:Nat)=9999+1 from rfl,Instr.checkKey];simp only[pT,av];simp[run_underlying hS,go_sem,Result.andThen,hs,hi]
theorem UY{fs:Array Field}{k:Value}{e:MapEntry}{es:List MapEntry}(i:Nat):Instr.findNow (.struct fs) k (e::es) i=none:=by
 simp only[Instr.findNow];rfl
theorem LT(p:List UInt8×List UInt8)(w:World):∀ (es:List MapEntry) (kvs:List ((List UInt8×List UInt8)×Value)) (i:Nat),es.map (λe=>(e.key,e.val))=kvs.map (λq=>(pT q.1,q.2))->
 (∀ v,kvs.lookup p=some v->∃ j,(es[j]?).map (λe=>(e.key,e.val))=some (pT p,v)/\kvs[j]?=some (p,v)/\(Instr.findAsking 138 (pT p) es i).run prog w = .ok (some (i+j,v)) w)/\(kvs.lookup p=none->(Instr.findAsking 138 (pT p) es i).run prog w = .ok none w)
 | [],kvs,i,h=>by
   cases kvs with
   | nil=>exact⟨λv h=>by simp at h,λ_=>by rw[Instr.findAsking];rfl⟩
   | cons=>simp at h
 | e::es,kvs,i,h=>by
   cases kvs with
   | nil=>simp at h
   | cons q kvs=>
    obtain⟨q,u⟩:=q;simp only[List.map_cons,List.cons.injEq,Prod.mk.injEq] at h;obtain⟨⟨h1,h2⟩,h3⟩:=h;obtain⟨i1,i2⟩:=LT p w es kvs (i+1) h3;have hq:=UN p q w;rw[<-h1] at hq;by_cases jl:p=q
    ·have hd:decide (p=q)=true:=by simpa using jl
     rw[hd] at hq;have hr:(Instr.findAsking 138 (pT p) (e::es) i).run prog w = .ok (some (i,u)) w:=by
      rw[Instr.findAsking];simp[hq,h2]
     subst jl;refine⟨λv hv=>⟨0,?_,?_,?_⟩,λhn=>?_⟩
     ·rw[List.lookup_cons_self] at hv;cases hv;simp[h1,h2]
     ·rw[List.lookup_cons_self] at hv;cases hv;rfl
     ·rw[List.lookup_cons_self] at hv;cases hv;exact hr
     ·rw[List.lookup_cons_self] at hn;cases hn
    ·have hd:decide (p=q)=false:=by simpa using jl
     rw[hd] at hq;have hb:(p == q)=false:=by simpa using jl
     have hr:(Instr.findAsking 138 (pT p) (e::es) i).run prog w=(Instr.findAsking 138 (pT p) es (i+1)).run prog w:=by
      rw[Instr.findAsking];simp[hq]
     have hl:((q,u)::kvs).lookup p=kvs.lookup p:=by rw[List.lookup_cons,hb]
     rw[hr,hl];refine⟨λv hv=>?_,i2⟩;obtain⟨j,j1,j2,j3⟩:=i1 v hv;exact⟨j+1,by simpa using j1,by simpa using j2,by rw[show i+(j+1)=i+1+j by omega];exact j3⟩
theorem MB(p:List UInt8×List UInt8)(w:World)(es:List MapEntry)(kvs:List ((List UInt8×List UInt8)×Value))(h:es.map (λe=>(e.key,e.val))=kvs.map (λq=>(pT q.1,q.2))) :
 (∀ v,kvs.lookup p=some v->∃ j,(es[j]?).map (λe=>(e.key,e.val))=some (pT p,v)/\kvs[j]?=some (p,v)/\(Instr.findKey 138 (pT p) es).run prog w = .ok (some (j,v)) w)/\(kvs.lookup p=none->(Instr.findKey 138 (pT p) es).run prog w = .ok none w):=by
 have hS:=underlying138
 cases es with
 | nil=>
  cases kvs with
  | nil=>exact⟨λv h=>by simp at h,λ_=>by simp[Instr.findKey,run_underlying hS,Instr.findNow]⟩
  | cons=>simp at h
 | cons e es=>
  obtain⟨i1,i2⟩:=LT p w (e::es) kvs 0 h;have hr:(Instr.findKey 138 (pT p) (e::es)).run prog w=(Instr.findAsking 138 (pT p) (e::es) 0).run prog w:=by
   simp[Instr.findKey,run_underlying hS,UY]
  rw[hr];refine⟨λv hv=>?_,i2⟩;obtain⟨j,j1,j2,j3⟩:=i1 v hv;exact⟨j,j1,j2,by rw[j3,Nat.zero_add]⟩
theorem akJ(w:World)(t et:TypeId)(ht:prog.underlying t=some (.map 138 et))(r:Nat)(kvs:List ((List UInt8×List UInt8)×Value))(hr:iP r kvs w)(p:List UInt8×List UInt8)(z:Value)(hz:(zeroValue et).run prog w = .ok z w) :
 (Instr.lookup t (.map (some r)) (pT p) false).run prog w = .ok ((kvs.lookup p).getD z) w:=by
 obtain⟨es,hr,he,_⟩:=hr;have hf:=MB p w es.toList kvs he;have hc:∀ b,(Instr.checkKey b 10000 138 (pT p)).run prog w = .ok () w:=λb=>L3 b p w
 cases hl:kvs.lookup p with
 | none=>simp[Instr.lookup,run_underlying ht,MapKept.run_getObj_map hr,hc,hf.2 hl,Result.andThen,hz]
 | some v=>
  obtain⟨j,_,_,hj⟩:=hf.1 v hl;simp[Instr.lookup,run_underlying ht,MapKept.run_getObj_map hr,hc,hj,Result.andThen]
theorem TK(a:ByteArray):(a == a)=true:=by
 show (a.data == a.data)=true;simp
theorem apJ(p:List UInt8×List UInt8)(w:World):(Instr.keyThatStays (pT p) (pT p)).run prog w = .ok (pT p) w:=by
 have hs:Instr.sameBits 10000 (pT p) (pT p)=true:=by
  show Instr.sameBits (9999+1) (pT p) (pT p)=true;simp only[pT,av,Instr.sameBits];simp[Instr.sameBits,TK]
 simp[Instr.keyThatStays,hs]
theorem alZ(w:World)(t et:TypeId)(ht:prog.underlying t=some (.map 138 et))(r:Nat)(kvs:List ((List UInt8×List UInt8)×Value))(hr:iP r kvs w)(p:List UInt8×List UInt8)(val:Value)(hl:kvs.lookup p=none\/kvs.lookup p=some val) :
 ∃ w',(Instr.mapUpdate t (.map (some r)) (pT p) val).run prog w = .ok () w'/\iP r (if kvs.lookup p=none then kvs ++ [(p,val)] else kvs) w'/\Turned r w w':=by
 obtain⟨es,hr,he,ik⟩:=hr;have hf:=MB p w es.toList kvs he;have hc:(Instr.checkKey false 10000 138 (pT p)).run prog w = .ok () w:=L3 false p w;have aa:r<w.heap.size:=(eQ.1 hr).1;rcases hl with hl | hl
 ·rw[Qb hl];refine⟨{ w with heap:=w.heap.setIfInBounds r (.map (es.push { key:=pT p,val:=val,born:=es.size }) (es.size+1)) },by simp[Instr.mapUpdate,run_underlying ht,MapKept.run_getObj_map hr,hc,hf.2 hl,MapKept.run_setObj_map _ hr,Result.andThen],⟨es.push { key:=pT p,val:=val,born:=es.size },by simp[aa],by simp[he],λi e hi=>?_⟩,⟨rfl,rfl,rfl,by simp,λi hi=>by simp[Ne.symm hi]⟩⟩;rw[Array.getElem?_push] at hi;split at hi
  ·rename_i h1;cases hi;exact h1.symm
  ·exact ik i e hi
 ·have hn:¬ kvs.lookup p=none:=by rw[hl];exact λh=>nomatch h
  rw[Qc hn];obtain⟨j,j1,j2,j3⟩:=hf.1 val hl;have j0:∃ e,es[j]?=some e/\e.key=pT p/\e.val=val:=by
   rw[Array.getElem?_toList] at j1
   cases h0:es[j]? with
   | none=>rw[h0] at j1;simp at j1
   | some e=>rw[h0] at j1;simp only[Option.map_some,Option.some.injEq,Prod.mk.injEq] at j1;exact⟨e,rfl,j1.1,j1.2⟩
  obtain⟨e0,e1,e2,e3⟩:=j0;have jM:(Instr.keyThatStays (((es[j]?).map (·.key)).getD (pT p)) (pT p)).run prog w = .ok (pT p) w:=by
   rw[e1];simp only[Option.map_some,Option.getD_some];rw[e2];exact apJ p w
  have tq:(es.modify j λe=>{ e with key:=pT p,val:=val })=es:=by
   apply Array.ext_getElem?;intro i;rw[Array.getElem?_modify];by_cases dp:j=i
   ·subst dp;rw[Qb rfl,e1]
    cases e0
    subst e2;subst e3;rfl
   ·rw[Qc dp]
  refine⟨w,?_,⟨es,hr,he,ik⟩,⟨rfl,rfl,rfl,rfl,λi hi=>rfl⟩⟩;have oS:w.heap.setIfInBounds r (.map es es.size)=w.heap:=by
   apply Array.ext_getElem?;intro i;rw[Array.getElem?_setIfInBounds];by_cases A7:r=i
   ·subst A7;rw[Qb rfl,Qb aa,hr]
   ·rw[Qc A7]
  simp[Instr.mapUpdate,run_underlying ht,MapKept.run_getObj_map hr,hc,j3,jM,tq,MapKept.run_setObj_map _ hr,oS,Result.andThen]
end
end Go.Proofs.YtfnopgdcaanaiaaGreatDoor
