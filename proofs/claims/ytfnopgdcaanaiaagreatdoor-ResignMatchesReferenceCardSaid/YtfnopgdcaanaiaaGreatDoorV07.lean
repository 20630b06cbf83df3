/- Parts of the proof. No condition. -/
import Derived.Deep.DeepCutAuto
import Derived.Test.YtfnopgdcaanaiaaGreatDoorV02
import Derived.Test.YtfnopgdcaanaiaaGreatDoorV03
import Derived.Test.YtfnopgdcaanaiaaGreatDoorV04
set_option linter.all false
set_option maxRecDepth 100000
set_option maxHeartbeats 8000000
namespace Go.Proofs.YtfnopgdcaanaiaaGreatDoor
open Go.Proofs.Tryz
section
open Go.RowKit
theorem auX(l:List UInt8):Np.aZ (l ++ [46])=Np.aZ l ++ [[]]:=Np.Cl l []
theorem auY:∀ (l:List UInt8) (c:UInt8) (pre:List (List UInt8)) (x:List UInt8),c≠46->Np.aZ l=pre ++ [x]->Np.aZ (l ++ [c])=pre ++ [x ++ [c]]:=by
 intro l
 induction l with
 | nil=>
  intro c pre x hc h;have h2:([[]]:List (List UInt8))=pre ++ [x]:=h
  cases pre with
  | nil=>simp at h2;subst h2;simp[Np.aZ,hc]
  | cons a pre=>simp at h2
 | cons a r ih=>
  intro c pre x hc h;rw[List.cons_append];rw[Np.aZ] at h |-;by_cases ha:a=46
  ·rw[Qb ha] at h |-
   cases pre with
   | nil=>simp at h;exact absurd h.2 (Np.qV r)
   | cons b pre=>
    simp only[List.cons_append,List.cons.injEq] at h;rw[ih c pre x hc h.2,<-h.1];rfl
  ·rw[Qc ha] at h |-;have hne:=Np.qV r
   cases hr:Np.aZ r with
   | nil=>exact absurd hr hne
   | cons y ys=>
    rw[hr] at h;simp only at h
    cases pre with
    | nil=>
     simp only[List.nil_append,List.cons.injEq] at h;obtain⟨rfl,rfl⟩:=h;rw[ih c [] y hc (by rw[hr];rfl)];rfl
    | cons b pre=>
     simp only[List.cons_append,List.cons.injEq] at h;obtain⟨rfl,rfl⟩:=h;rw[ih c (y::pre) x hc (by rw[hr];rfl)];rfl
def RSt(_:World)(_:Nat)(e:List Value)(x:List UInt8):Prop:=e = [aC x]
theorem E1:dH RSt:=λ_ _ _ _ _ h _=>h
theorem QK:eh RSt:=λ_ _ _ _ _ h _=>h
def xd{α:Type}(R:aPK α)(sz:Nat)(w:World)(xs:List α)(e:Ending)(w':World):Prop:=∃ v,e = .returned v/\SlR R sz w' w'.heap.size v xs/\Below w.heap.size w w'
theorem abQ{W:World}{base:Nat}{e:TypeId}{g cap n:Nat}{xs:List Value}(h:W.ownsRow base e 1 (.slice (some ⟨g,0,none⟩) n cap) n xs)(j:Nat)(hj:j<n)(u:Value) :
 W.cell? ⟨g,j,none⟩=xs[j]?/\W.frozen? ⟨g,j,none⟩=false/\g<W.heap.size/\base<=g/\(W.setCell ⟨g,j,none⟩ u).ownsRow base e 1 (.slice (some ⟨g,0,none⟩) n cap) n (xs.set j u):=by
 obtain⟨h1,h2⟩:=h;rcases h2 with ⟨h2,_⟩ | ⟨g',cap',cur,h2,hb,hg,hn,hm,hs,ht⟩
 ·cases h2
 ·simp only[Value.slice.injEq,Option.some.injEq,Addr.mk.injEq,and_true,true_and] at h2;obtain⟨rfl,rfl⟩:=h2;have aa:=(eQ.1 hg).1;refine⟨?_,?_,aa,hb,by simpa using h1,.inr ⟨g,cap,cur.setIfInBounds j u,rfl,hb,?_,hn,hm,by simpa using hs,?_⟩⟩
  ·rw[<-ht];simp only[World.cell?,hg,Option.isSome_none,Bool.false_eq_true,if_false,List.getElem?_take];rw[Qb (by omega)];simp
  ·simp[World.frozen?,hg]
  ·simp only[World.setCell,Array.getElem?_modify,if_true,hg];simp
  ·rw[<-ht,Array.toList_setIfInBounds,List.take_set]
theorem Tryz.infoStr:(prog.info? 9).map (λi=>(i.zero,i.size,i.bytes))=some (some (.string ⟨#[]⟩),1,16):=by kernel_rfl
def Uo(s:ByteArray)(w:World)(v i:Value)(wr:World):Prop:=
 ∃ (k:Nat) (pre:List (List UInt8)) (x:List UInt8),k<=s.size/\i = .int .i64 k/\Np.aZ (s.data.toList.take k)=pre ++ [x]/\pre.length<=k/\wr.ownsRow w.heap.size 9 1 v (pre.length+1) (pre.map aC ++ [aC x])/\Below w.heap.size w wr
theorem avY(x:List UInt8)(s:ByteArray)(k:Nat)(hk:k<s.size):Value.string ((⟨x.toArray⟩:ByteArray)++s.extract k (k+1))=aC (x ++ [s[k]]):=by
 show Value.string _=Value.string _;congr 1;apply mT
 have:(s.extract k (k+1)).data.toList = [s[k]]:=by
  rw[Hb,Kc s k hk,List.drop_append_of_le_length (by rw[List.length_take,bk];omega),List.drop_of_length_le (by rw[List.length_take,bk];omega),List.nil_append]
 rw[ByteArray.data_append,Array.toList_append,this]
theorem Qz(s:ByteArray)(hs:s.size<=1000000)(w:World):Calls prog 103 #[.string s] w (xd RSt 1 w (Np.aZ s.data.toList)):=by
 obtain⟨i0,hi,di,ba,aN⟩:=info_parts Tryz.infoStr;go_enter func103,ntmps103;go_wp2;go_loopw [3,4] (λv i wr=>Uo s w v i wr) (λ_ i _=>s.size - (intOf i).toNat)
 case atStart=>
  refine⟨0,[],[],jQ _,rfl,rfl,bQ _,⟨rfl,.inr ⟨w.heap.size,1,#[.string ⟨#[]⟩],rfl,bQ _,heap_alloc_new _ _,by simp,by simp[maxLen],rfl,rfl⟩⟩,(vQ _ _).alloc (bQ _) _⟩
 case round=>
  obtain⟨k,pre,x,hk,rfl,yB,vY,hown,hB⟩:=hrel;obtain⟨g,cap,rfl⟩:=ownsRow_succ hown;have al:=hB.size;have HB:=jq hB;have HO:=jq hown;have HS:=jq yB;clear hB hown yB;by_cases aa:k<s.size
  ·have hb:=yV s[k];have O8:=Kc s k aa;have HT:=jq O8;clear O8;by_cases Al:(s[k].toNat:Int)=46
   ·have he:((s[k].toNat:Int) == 46)=true:=by simp[Al]
    have hc:s[k]=46:=by
     apply UInt8.toNat_inj.1
     have:s[k].toNat=46:=by omega
     rw[this];rfl
    have HC:=jq hc;clear hc Al;go_wp2_with (at_builtin;refine wpList_append_own_at _ rfl _ _ 116 rfl w.heap.size 9 i0 (.string ⟨#[]⟩) 1 16 underlying116 hi di ba aN rfl (by decide) _ _ _ rfl (HO.out.alloc _) ⟨wr.heap.size,0,none⟩ 1 1 [.string ⟨#[]⟩] rfl rfl (cell_one_new _ _ _) (by simp[Value.oneCell']) (by unfold maxLen;omega) (by omega) (by simp;omega) ?_;intro v1 w1 OK oI _ WK;have H1:=jq (And.intro OK oI);clear OK oI WK);go_roundw
    case rel=>
     obtain⟨o1,g1⟩:=H1.out;have gT:=(HO.out.lt g rfl).1;refine⟨k+1,pre ++ [x],[],by omega,by go_num,?_,by simp;omega,?_,?_⟩
     ·rw[HT.out,HC.out,auX,HS.out]
     ·simpa using o1
     ·exact (HB.out.alloc (by omega) _).grown g1 (by simp;omega) (λj hj=>by have e:g=j:=Option.some.inj hj;omega)
    case measure=>simp[intOf] <;> omega
   ·have he:((s[k].toNat:Int) == 46)=false:=by simp[Al]
    have hc:s[k]≠46:=λe=>Al (by rw[e];rfl);have HC:=jq hc;clear hc Al;obtain⟨q1,q2,q3,q4,q5⟩:=abQ HO.out pre.length (by omega) (aC (x ++ [s[k]]));have hcell:wr.cell? ⟨g,pre.length,none⟩=some (aC x):=by rw[q1];simp
    have Gy:=jq q5;have mE:=avY x s k aa;clear q1 q5;have sw:x.length<=k:=by
     have h1:=Np.J6 (l:=s.data.toList.take k) (y:=x) (by rw[HS.out];simp);rw[List.length_take] at h1;omega
    have iA:¬ 9223372036854775807<x.length+(min (k+1) s.size - k):=by omega
    have ai:IntKind.i64.wrap (pre.length:Int)=pre.length:=IntWalk.i64_in _ (by omega);have ag:IntKind.i64.wrap ((k:Int)+1)=k+1:=IntWalk.i64_in _ (by omega);have OL:(0:Int)<=(pre.length:Int):=by omega
    have hp1:(pre.length:Int)<(pre.length:Int)+1:=by omega
    have bF:(0:Int)<=(k:Int):=by omega
    have bL:(k:Int)+1<=(s.size:Int):=by omega
    have jj:((k:Int)+1).toNat=k+1:=by omega
    have mH:(0:Int)<=(k:Int)+1:=by omega
    have j9:(k:Int)<=(k:Int)+1:=by omega
    go_wp2_with fail;refine RG 17 (by kernel_rfl) (by kernel_rfl) ?_;simp only[List.take_succ_cons,List.take_zero,List.drop_succ_cons,List.drop_zero]
    iterate 17 still_step
    refine wpStill_nil ?_;go_wp2_with fail;go_roundw
    case rel=>
     refine⟨k+1,pre,x ++ [s[k]],by omega,by go_num,?_,by omega,?_,?_⟩
     ·rw[HT.out];exact auY _ _ _ _ HC.out HS.out
     ·have h5:(wr.setCell ⟨g,pre.length,none⟩ (aC (x ++ [s[k]]))).ownsRow w.heap.size 9 1 (.slice (some ⟨g,0,none⟩) (pre.length+1) cap) (pre.length+1) (pre.map aC ++ [aC (x ++ [s[k]])]):=by
       have:=Gy.out
       simpa using this
      exact h5
     ·exact (HB.out.setCell (p:=⟨g,pre.length,none⟩) q4 _).drew
    case measure=>simp[intOf] <;> omega
  ·go_wp2_with fail;go_ret;refine⟨_,rfl,?_,HB.out⟩;have aP:Np.aZ s.data.toList=pre ++ [x]:=by have:=HS.out;rwa [E8 s k (by omega)] at this
   rw[aP];refine Cj (sz:=1) (e:=9) (base:=w.heap.size) (λx=>[aC x]) (λ_ _=>rfl) ?_ (by simp;omega) (λ_ _=>rfl)
   have:=HO.out
   simpa [EC] using this
theorem atK{α:Type}{R:aPK α}{sz:Nat}(w:World)(B:Nat):SlR R sz w B (.slice none 0 0) []:=⟨none,0,rfl,by simp,by simp,λi x h=>by simp at h⟩
theorem Ce(s:ByteArray)(hs:s.size<=1000000)(w:World):Calls prog 233 #[.string s] w (xd RSt 1 w (Np.eI s.data.toList)):=by
 by_cases h:s.data.toList = [46]
 ·have he:(s.toList == [46])=true:=by rw[dQ,h];rfl
  have hp:Np.eI s.data.toList = []:=by rw[Np.eI,Qb h]
  rw[hp];clear h hp;go_enter func233,ntmps233;go_wp2_with fail;go_ret;exact⟨_,rfl,atK _ _,vQ _ _⟩
 ·have he:(s.toList == [46])=false:=by rw[dQ];simpa using h
  have hp:Np.eI s.data.toList=Np.aZ s.data.toList:=by rw[Np.eI,Qc h]
  rw[hp];clear h hp;go_enter func233,ntmps233;go_wp2_with fail;refine (Qz s hs _).mono ?_;rintro e w1 ⟨v,rfl,hv,hb⟩;have HV:=jq (And.intro hv hb);clear hv hb;go_wp2_with fail;go_ret;exact⟨_,rfl,HV.out⟩
theorem Cm{w:World}{B:Nat}{v:Value}{xs:List (List UInt8)}(h:SlR RSt 1 w B v xs){k:Nat}{x:List UInt8}(hx:xs[k]?=some x):∃ b o c,v = .slice (some ⟨b,o,none⟩) xs.length c/\b<B/\xs.length<=c/\w.cell? ⟨b,o+k,none⟩=some (aC x):=by
 obtain⟨A,c,rfl,hc,_,he⟩:=h;obtain⟨b,o,e,rfl,hb,_,hce,rfl⟩:=he k x hx;exact⟨b,o,c,rfl,hb,hc,by have:=hce 0 _ rfl;simpa using this⟩
end
section
open Go.RowKit Go.MapKept
def dT(r:Nat)(kvs:List (List UInt8×Value))(w:World):Prop:=∃ es c,w.heap[r]?=some (.map es c)/\es.toList.map (λe=>(e.key,e.val))=kvs.map λp=>(aC p.1,p.2)
theorem dT.lt{r:Nat}{kvs:List (List UInt8×Value)}{w:World}(h:dT r kvs w):r<w.heap.size:=by
 obtain⟨es,c,h,_⟩:=h;exact (eQ.1 h).1
theorem dT.keep{r:Nat}{kvs:List (List UInt8×Value)}{w w':World}{n:Nat}(h:dT r kvs w)(hb:Below n w w')(hn:r<n):dT r kvs w':=by
 obtain⟨es,c,h,h2⟩:=h;exact⟨es,c,(hb.block r hn).trans h,h2⟩
theorem dT.made(w:World):dT w.heap.size [] (w.alloc (.map #[] 0)):=⟨#[],0,heap_alloc_new _ _,rfl⟩
theorem Rc(x y:List UInt8):((⟨x.toArray⟩:ByteArray) == ⟨y.toArray⟩)=(x == y):=by
 have h:((⟨x.toArray⟩:ByteArray) == ⟨y.toArray⟩)=(x.toArray == y.toArray):=rfl;rw[h,List.beq_toArray]
theorem Dt(x:List UInt8):∀ (es:List MapEntry) (kvs:List (List UInt8×Value)) (i:Nat),es.map (λe=>(e.key,e.val))=kvs.map (λp=>(aC p.1,p.2))->
 (∀ v,kvs.lookup x=some v->∃ j,Instr.findNow .string (aC x) es i=some (some (j,v)))/\(kvs.lookup x=none->Instr.findNow .string (aC x) es i=some none):=by
 intro es
 induction es with
 | nil=>
  intro kvs i h
  cases kvs with
  | nil=>exact⟨λv hv=>by simp at hv,λ_=>rfl⟩
  | cons=>simp at h
 | cons e es ih=>
  intro kvs i h
  cases kvs with
  | nil=>simp at h
  | cons p kvs=>
   obtain⟨y,u⟩:=p;simp only[List.map_cons,List.cons.injEq,Prod.mk.injEq] at h;obtain⟨⟨h1,h2⟩,h3⟩:=h;have hs:Instr.sameNow .string (aC x) e.key=some (x == y):=by rw[h1];simp only[Instr.sameNow];rw[Rc]
   by_cases bZ:x=y
   ·subst bZ;have hb:(x == x)=true:=by simp
    rw[hb] at hs;refine⟨λv hv=>⟨i,?_⟩,λhv=>?_⟩
    ·rw[List.lookup_cons_self] at hv;simp only[Instr.findNow,hs]
     cases hv
     rw[h2]
    ·rw[List.lookup_cons_self] at hv;cases hv
   ·have hb:(x == y)=false:=by simpa using bZ
    rw[hb] at hs;have hl:((y,u)::kvs).lookup x=kvs.lookup x:=by rw[List.lookup_cons,hb]
    rw[hl];obtain⟨i1,i2⟩:=ih kvs (i+1) h3;refine⟨λv hv=>?_,λhv=>?_⟩
    ·obtain⟨j,hj⟩:=i1 v hv;exact⟨j,by simp only[Instr.findNow,hs];exact hj⟩
    ·simp only[Instr.findNow,hs];exact i2 hv
section
variable {P:Program} {ops:Array Oper} {rest:List Oper} {o:Oper} {a:Act} {Q:Exit->Act->World->Prop}
theorem RF(w:World)(hg:o.guard=none)(m x v:Operand)(t:TypeId)(iB:o.op=Op.mapUpdate t m x v)(kt et:TypeId)(ht:P.underlying t=some (.map kt et))(hk:P.underlying kt=some .string)
 (r:Nat) (kvs:List (List UInt8×Value)) (hm:a.eval m = .map (some r)) (hr:dT r kvs w) (key:List UInt8) (hx:a.eval x=aC key) (val:Value) (hv:a.eval v=val) (iA:kvs.lookup key=none)
 (hK:∀ w',dT r (kvs ++ [(key,val)]) w'->Turned r w w'->wpList P ops Q rest (a.put o.dst undef) w'):wpList P ops Q (o::rest) a w:=by
 obtain⟨es,c,hr,he⟩:=hr;have hf:=(Dt key es.toList kvs 0 he).2 iA;refine wpList_plain hg λK' hK'=>?_;have hc:(Instr.checkKey false 10000 kt (aC key)).run P w = .ok () w:=MapKept.run_checkKey (k:=aC key) hk (by simp[MapKept.IsKey]) false 9999;have dh:(Instr.mapUpdate t (.map (some r)) (aC key) val).run P w = .ok () { w with heap:=w.heap.setIfInBounds r (.map (es.push { key:=aC key,val:=val,born:=c }) (c+1)) }:=by
  simp[Instr.mapUpdate,run_underlying ht,MapKept.run_getObj_map hr,hc,MapKept.run_findKey hk hf,MapKept.run_setObj_map _ hr,Result.andThen]
 unfold Oper.wp;simp[execOp,iB,hm,hx,hv,dh,Result.andThen];have hl:r<w.heap.size:=(eQ.1 hr).1;refine hK' _ _ (hK _ ⟨_,_,by simp[hl];exact⟨rfl,rfl⟩,by simp[he]⟩ ⟨rfl,rfl,rfl,by simp,λi hi=>by simp[Ne.symm hi]⟩)
theorem JZ(w:World)(t kt et:TypeId)(ht:P.underlying t=some (.map kt et))(hk:P.underlying kt=some .string)(r:Nat)(kvs:List (List UInt8×Value))(hr:dT r kvs w)(key:List UInt8)(z:Value)(hz:(zeroValue et).run P w = .ok z w) :
 (Instr.lookup t (.map (some r)) (aC key) false).run P w = .ok ((kvs.lookup key).getD z) w:=by
 obtain⟨es,c,hr,he⟩:=hr;have hf:=Dt key es.toList kvs 0 he;have hc:∀ b,(Instr.checkKey b 10000 kt (aC key)).run P w = .ok () w:=λb=>MapKept.run_checkKey (k:=aC key) hk (by simp[MapKept.IsKey]) b 9999
 cases hl:kvs.lookup key with
 | none=>simp[Instr.lookup,run_underlying ht,MapKept.run_getObj_map hr,hc,MapKept.run_findKey hk (hf.2 hl),Result.andThen,hz]
 | some v=>
  obtain⟨j,hj⟩:=hf.1 v hl;simp[Instr.lookup,run_underlying ht,MapKept.run_getObj_map hr,hc,MapKept.run_findKey hk hj,Result.andThen]
end
end
section
open Go.RowKit
theorem ET(x:List UInt8)(hx:x.length<=140737488355328)(w:World):Calls prog 104 #[aC x] w (aPQ w (.bool (Np.cD x))):=by
 have:=alQ ⟨x.toArray⟩ (by rw[<-bk];simpa using hx) w
 simpa using this
def EH(l:List (List UInt8))(j:Nat):Prop:=∃ x,l[j]?=some x/\(Np.cD x=true\/(j=0/\x = [42]))
theorem Ze{l:List (List UInt8)}(h:∀ j,j<l.length->EH l j):Np.ue l=true:=by
 cases l with
 | nil=>rfl
 | cons a t=>
  unfold Np.ue;rw[Bool.and_eq_true];constructor
  ·obtain⟨x,hx,ho⟩:=h 0 (by simp);simp at hx;subst hx;rcases ho with ho | ⟨_,ho⟩ <;> simp[ho]
  ·rw[List.all_eq_true];intro y hy;obtain⟨j,hj,rfl⟩:=nQ.1 hy;obtain⟨x,hx,ho⟩:=h (j+1) (by simpa using hj);simp only[List.getElem?_cons_succ,aQ hj,Option.some.injEq] at hx;rcases ho with ho | ⟨h0,_⟩
   ·rw[hx];exact ho
   ·omega
theorem PC{l:List (List UInt8)}{j:Nat}{x:List UInt8}(hx:l[j]?=some x)(h1:Np.cD x=false)(h2:j=0->x≠[42]):Np.ue l=false:=by
 cases l with
 | nil=>simp at hx
 | cons a t=>
  unfold Np.ue
  cases j with
  | zero=>simp at hx;subst hx;simp[h1,h2 rfl]
  | succ j=>
   have:t.all Np.cD=false:=by
    rw[List.all_eq_false];exact⟨x,gQ (by simpa using hx),by simp[h1]⟩
   show ((Np.cD a||a == [42])&&t.all Np.cD)=false;rw[this,Bool.and_false]
theorem J7:∀ l:List UInt8,(Np.aZ l).length<=l.length+1:=by
 intro l
 induction l with
 | nil=>simp[Np.aZ]
 | cons c r ih=>
  rw[Np.aZ];split
  ·simp;omega
  ·split
   ·rename_i x xs hx;rw[hx] at ih;simp at ih |-;omega
   ·simp
theorem yL(s:ByteArray)(hs:s.size<=140737488355328)(w:World) :
 Calls prog 50 #[.string s] w (aOJ w.heap.size w (.bool (Np.aG s.data.toList))):=by
 rw[Np.Ru];by_cases h:s.data.toList = [46]
 ·have he:(s.toList == [46])=true:=by rw[dQ,h];rfl
  rw[Qb h];clear h;go_enter func50,ntmps50;go_wp2_with fail;go_ret;exact⟨rfl,vQ _ _⟩
 ·have he:(s.toList == [46])=false:=by rw[dQ];simpa using h
  rw[Qc h];clear h;by_cases DB:60<s.size
  ·rw[Qb (by rw[bk];exact DB)];have h6:60<(s.size:Int):=by omega
   go_enter func50,ntmps50;go_wp2_with fail;go_ret;exact⟨rfl,vQ _ _⟩
  ·rw[Qc (by rw[bk];exact DB)];have h6:(s.size:Int)<=60:=by omega
   have hlen:=J7 s.data.toList;have vR:∀ y∈Np.aZ s.data.toList,y.length<=60:=λy hy=>by have:=Np.J6 hy;rw[bk] at this;omega
   rw[bk] at hlen;generalize hL:Np.aZ s.data.toList=l at *;have HM:=jq vR;have qh:=jq hL;clear vR hL;go_enter func50,ntmps50;go_wp2_with fail;refine (Qz s (by omega) _).mono ?_;rw[qh.out];rintro e w1 ⟨v,rfl,hv,hb⟩;have HV:=jq hv;have HB:=jq hb;obtain⟨A,c,rfl,hc,_,_⟩:=hv;clear hb;go_wp2_with fail;go_loop [4] (λi=>∃ k:Nat,k<=l.length/\i = .int .i64 k/\Hid (∀ j,j<k->EH l j)) (λi=>l.length - (intOf i).toNat)
   case atStart=>exact⟨0,jQ _,rfl,jq (λj h=>by omega)⟩
   case round=>
    obtain⟨k,hk,rfl,HA⟩:=hrel;by_cases aa:k<l.length
    ·obtain⟨b,o,c',hA,_,_,hcell⟩:=Cm HV.out (aQ aa)
     cases hA
     have hx:=HM.out _ (List.getElem_mem aa);have ab:l[k]?=some l[k]:=aQ aa;generalize l[k]=x at *;have HG:=jq ab;clear ab;have BC:EH l k->∀ j,j<k+1->EH l j:=λh j hj=>by
      by_cases e:j=k
      ·subst e;exact h
      ·exact HA.out j (by omega)
     have HX:=jq BC;clear BC
     cases hl:Np.cD x with
     | true=>
      have HL:=jq hl;go_wp2_with (go_at_call 104;refine (ET _ (by omega) _).mono ?_;rintro e w' ⟨rfl,rfl⟩);go_round
      case rel=>exact⟨k+1,by omega,by go_num,jq (HX.out ⟨_,HG.out,.inl HL.out⟩)⟩
      case measure=>simp[intOf] <;> omega
     | false=>
      have HL:=jq hl;by_cases bF:k=0
      ·subst bF;simp only[Nat.add_zero] at hcell;by_cases Ho:x = [42]
       ·subst Ho;go_wp2_with (go_at_call 104;refine (ET _ (by simp) _).mono ?_;rintro e w' ⟨rfl,rfl⟩);go_round
        case rel=>exact⟨1,by omega,by go_num,jq (HX.out ⟨_,HG.out,.inr ⟨rfl,rfl⟩⟩)⟩
        case measure=>simp[intOf] <;> omega
       ·have hne:(x == [42])=false:=by simpa using Ho
        go_wp2_with (go_at_call 104;refine (ET _ (by omega) _).mono ?_;rintro e w' ⟨rfl,rfl⟩);go_ret;exact⟨ae (by rw[PC HG.out HL.out (λ_=>Ho)];rfl),HB.out⟩
      ·have hkp:(0:Int)<k:=by omega
       go_wp2_with (go_at_call 104;refine (ET _ (by omega) _).mono ?_;rintro e w' ⟨rfl,rfl⟩);go_ret;exact⟨ae (by rw[PC HG.out HL.out (λe=>absurd e bF)];rfl),HB.out⟩
    ·have kb:Np.ue l=true:=Ze (λj hj=>HA.out j (by omega));have bG:=jq kb;clear kb;go_wp2_with fail;go_ret;exact⟨ae (by rw[bG.out,Bool.true_and,Bool.eq_iff_iff];simp;omega),HB.out⟩
theorem ES(s z:ByteArray)(hs:s.size<=1000)(hz:z.size<=1000)(w:World) :
 Calls prog 222 #[.string s,.string z] w (aOJ w.heap.size w (.bool (Np.inL (Np.eI s.data.toList) (Np.eI z.data.toList)))):=by
 have vG:∀ t:ByteArray,t.size<=1000->(Np.eI t.data.toList).length<=1001:=λt ht=>by
  unfold Np.eI;split
  ·simp
  ·have:=J7 t.data.toList;rw[bk] at this;omega
 have bC:=vG s hs;have dJ:=vG z hz;clear vG;generalize mC:Np.eI s.data.toList=l at *;generalize vu:Np.eI z.data.toList=m at *;have rk:=jq mC;have F7:=jq vu;clear mC vu;go_enter func222,ntmps222;go_wp2_with fail;refine (Ce s (by omega) _).mono ?_;rw[rk.out];rintro e w1 ⟨v,rfl,hv,hb⟩;have HV:=jq hv;have HB:=jq hb;obtain⟨A,c,rfl,hc,_,_⟩:=hv;clear hb;go_wp2_with fail;refine (Ce z (by omega) _).mono ?_;rw[F7.out];rintro e w2 ⟨v2,rfl,sj,ac⟩;have ir:=jq ((HV.out.keep E1 ac).more QK ac.size);have lM:=jq sj;have ah:=jq (HB.out.trans (ac.mono HB.out.size));obtain⟨A2,c2,rfl,dV,_,_⟩:=sj;clear ac HV;by_cases hlen:m.length<=l.length
 ·have eV:(m.length:Int)<=(l.length:Int):=by omega
  go_wp2_with fail;go_loopw [7] (λi wr=>∃ k:Nat,k<=m.length/\i = .int .i64 k/\Hid (∀ j,j<k->l[l.length - m.length+j]?=m[j]?)/\Hid (Below w2.heap.size w2 wr)) (λi _=>m.length - (intOf i).toNat)
  case atStart=>exact⟨0,jQ _,rfl,jq (λj h=>by omega),jq (vQ _ _)⟩
  case round=>
   obtain⟨k,hk,rfl,HA,HW⟩:=hrel;by_cases aa:k<m.length
   ·obtain⟨b,o,c',hA,_,_,hcell⟩:=Cm (ir.out.keep E1 HW.out) (aQ (show l.length - m.length+k<l.length by omega))
    cases hA
    obtain⟨b2,o2,c2',pu,_,_,WX⟩:=Cm (lM.out.keep E1 HW.out) (aQ aa)
    cases pu
    have Be:l[l.length - m.length+k]?=some l[l.length - m.length+k]:=aQ _;have Bf:m[k]?=some m[k]:=aQ aa;generalize l[l.length - m.length+k]=x at *;generalize m[k]=y at *;have sO:=jq Be;have lI:=jq Bf;clear Be Bf;have ai:IntKind.i64.wrap ((l.length:Int) - (m.length:Int))=(l.length:Int) - m.length:=IntWalk.i64_in _ (by omega);have ag:IntKind.i64.wrap ((l.length:Int) - (m.length:Int)+k)=(l.length:Int) - m.length+k:=IntWalk.i64_in _ (by omega);have e1:(0:Int)<=(l.length:Int) - m.length+k:=by omega
    have e2:(l.length:Int) - m.length+k<l.length:=by omega
    have e3:((l.length:Int) - m.length+k).toNat=l.length - m.length+k:=by omega
    have e4:(0:Int)<=k:=by omega
    have e5:(k:Int)<m.length:=by omega
    by_cases bZ:x=y
    ·have hne:(!x == y)=false:=by simp[bZ]
     have GP:=jq bZ;clear bZ;go_wp2_with fail;go_quiet (fail);go_wp2_with fail;go_roundw
     case rel=>
      refine⟨k+1,by omega,by go_num,jq (λj hj=>?_),jq (below_drewN HW.out _)⟩;by_cases e:j=k
      ·subst e;rw[sO.out,lI.out,GP.out]
      ·exact HA.out j (by omega)
     case measure=>simp[intOf] <;> omega
    ·have hne:(!x == y)=true:=by simp[bZ]
     have GP:=jq bZ;clear bZ;go_wp2_with fail;go_quiet (fail);go_wp2_with fail;go_ret;refine⟨ae ?_,ah.out.trans ((below_drewN HW.out _).mono ah.out.size)⟩
     symm
     unfold Np.inL;rw[uQ hlen,Bool.true_and,beq_eq_false_iff_ne];intro h;have h1:=Qd (·[k]?) h;simp only[List.getElem?_drop] at h1;rw[sO.out,lI.out] at h1;exact GP.out (Option.some.inj h1)
   ·go_wp2_with fail;go_ret;refine⟨ae ?_,ah.out.trans (HW.out.mono ah.out.size)⟩
    symm
    unfold Np.inL;rw[uQ hlen,Bool.true_and,beq_iff_eq];apply List.ext_getElem?;intro j;rw[List.getElem?_drop];by_cases hj:j<m.length
    ·exact HA.out j (by omega)
    ·rw[List.getElem?_eq_none (by omega),List.getElem?_eq_none (by omega)]
 ·have eV:(l.length:Int)<(m.length:Int):=by omega
  go_wp2_with fail;go_ret;exact⟨ae (by unfold Np.inL;rw[tQ hlen];rfl),ah.out⟩
theorem EV{l:List (List UInt8)}{k:Nat}(h:l.length<=k):l.reverse.drop k = []:=List.drop_eq_nil_of_le (by simpa using h)
theorem QD{l:List (List UInt8)}{k:Nat}(h:k<l.length):∃ x r,l.reverse.drop k=x::r:=⟨_,_,sQ (by simpa using h)⟩
theorem JU(s z:ByteArray)(hs:s.size<=1000)(hz:z.size<=1000)(w:World) :
 Calls prog 164 #[.string s,.string z] w (aOJ w.heap.size w (.int .i64 (Np.aI s.data.toList z.data.toList))):=by
 rw[Np.Aa,<-Np.B9,<-Np.B9];have vG:∀ t:ByteArray,t.size<=1000->(Np.eI t.data.toList).length<=1001:=λt ht=>by
  unfold Np.eI;split
  ·simp
  ·have:=J7 t.data.toList;rw[bk] at this;omega
 have bC:=vG s hs;have dJ:=vG z hz;clear vG;generalize mC:Np.eI s.data.toList=l at *;generalize vu:Np.eI z.data.toList=m at *;have rk:=jq mC;have F7:=jq vu;clear mC vu;go_enter func164,ntmps164;go_wp2_with fail;refine (Ce s (by omega) _).mono ?_;rw[rk.out];rintro e w1 ⟨v,rfl,hv,hb⟩;have HV:=jq hv;have HB:=jq hb;obtain⟨A,c,rfl,hc,_,_⟩:=hv;clear hb;go_wp2_with fail;refine (Ce z (by omega) _).mono ?_;rw[F7.out];rintro e w2 ⟨v2,rfl,sj,ac⟩;have ir:=jq ((HV.out.keep E1 ac).more QK ac.size);have lM:=jq sj;have ah:=jq (HB.out.trans (ac.mono HB.out.size));obtain⟨A2,c2,rfl,dV,_,_⟩:=sj;clear ac HV;go_wp2_with fail;go_loop [7] (λi=>∃ k:Nat,k<=l.length/\k<=m.length/\i = .int .i64 ((k:Int)+1)/\Hid (Np.cO l.reverse m.reverse=Np.cO (l.reverse.drop k) (m.reverse.drop k))) (λi=>l.length+1 - (intOf i).toNat)
 case atStart=>exact⟨0,jQ _,jQ _,rfl,jq rfl⟩
 case round=>
  obtain⟨k,bL,jj,rfl,HA⟩:=hrel;by_cases cI:k<l.length
  ·by_cases lz:k<m.length
   ·obtain⟨b,o,c',hA,_,_,hcell⟩:=Cm ir.out (aQ (show l.length - (k+1)<l.length by omega))
    cases hA
    obtain⟨b2,o2,c2',pu,_,_,WX⟩:=Cm lM.out (aQ (show m.length - (k+1)<m.length by omega))
    cases pu
    have Be:l.reverse.drop k=l[l.length - (k+1)]::l.reverse.drop (k+1):=by
     rw[sQ (by simpa using cI),List.getElem_reverse];congr 2;omega
    have Bf:m.reverse.drop k=m[m.length - (k+1)]::m.reverse.drop (k+1):=by
     rw[sQ (by simpa using lz),List.getElem_reverse];congr 2;omega
    generalize l[l.length - (k+1)]=x at *;generalize m[m.length - (k+1)]=y at *;have tX:Np.cO (l.reverse.drop k) (m.reverse.drop k)=if Np.cN x y≠0 then Np.cN x y else Np.cO (l.reverse.drop (k+1)) (m.reverse.drop (k+1)):=by rw[Be,Bf,Np.cO]
    have HS:=jq tX;clear Be Bf tX;have g1:((l.length:Int) - ((k:Int)+1)).toNat=l.length - (k+1):=by omega
    have g2:((m.length:Int) - ((k:Int)+1)).toNat=m.length - (k+1):=by omega
    have f1:(k:Int)+1<=l.length:=by omega
    have f2:(k:Int)+1<=m.length:=by omega
    rcases Np.xX x y with ⟨h1,h2⟩ | ⟨h1,h2,hn,h3⟩ | ⟨h1,h2,hn,h3⟩
    ·have H2:=jq h2;clear h2;go_wp2_with fail;go_ret;exact⟨jK (by rw[HA.out,HS.out,H2.out];rfl),ah.out⟩
    ·have H3:=jq h3;have hne:(!x == y)=true:=by simp[hn]
     clear h3 hn;go_wp2_with fail;go_ret;exact⟨jK (by rw[HA.out,HS.out,H3.out];rfl),ah.out⟩
    ·have H3:=jq h3;have hne:(!x == y)=false:=by simp[hn]
     clear h3 hn;go_wp2_with fail;go_round
     case rel=>exact⟨k+1,by omega,by omega,by go_num,jq (by rw[HA.out,HS.out,H3.out];rfl)⟩
     case measure=>simp[intOf] <;> omega
   ·have hm:k=m.length:=by omega
    have bY:(m.length:Int)<(k:Int)+1:=by omega
    have bK:(k:Int)+1<=l.length:=by omega
    have dF:(m.length:Int)<(l.length:Int):=by omega
    have hv:Np.cO l.reverse m.reverse=1:=by
     obtain⟨x,r,e⟩:=QD cI;rw[HA.out,EV (l:=m) (by omega),e];rfl
    have uW:=jq hv;clear hv hm;go_wp2_with fail;go_ret;exact⟨jK uW.out.symm,ah.out⟩
  ·have hl:k=l.length:=by omega
   have bK:(l.length:Int)<(k:Int)+1:=by omega
   by_cases lz:k<m.length
   ·have dF:(l.length:Int)<(m.length:Int):=by omega
    have hv:Np.cO l.reverse m.reverse = -1:=by
     obtain⟨x,r,e⟩:=QD lz;rw[HA.out,EV (l:=l) (by omega),e];rfl
    have uW:=jq hv;clear hv hl;go_wp2_with fail;go_ret;exact⟨jK uW.out.symm,ah.out⟩
   ·have dF:(l.length:Int)<=(m.length:Int):=by omega
    have dY:(m.length:Int)<=(l.length:Int):=by omega
    have hv:Np.cO l.reverse m.reverse=0:=by
     rw[HA.out,EV (l:=l) (by omega),EV (l:=m) (by omega)];rfl
    have uW:=jq hv;clear hv hl;go_wp2_with fail;go_ret;exact⟨jK uW.out.symm,ah.out⟩
theorem EQ(s z:ByteArray)(hs:s.size<=1000)(hz:z.size<=1000)(h1:Np.aG s.data.toList=true)(h2:Np.aG z.data.toList=true)(w:World) :
 Calls prog 304 #[.string s,.string z] w (aOJ w.heap.size w (.tuple #[.int .i64 (Np.aI s.data.toList z.data.toList),.int .i64 0])):=by
 have H1:=jq h1;have H2:=jq h2;clear h1 h2;go_enter func304,ntmps304;go_wp2_with fail;refine (yL s (by omega) _).mono ?_;rintro e w1 ⟨rfl,aq⟩;have am:=jq aq;clear aq;rw[H1.out];go_wp2_with fail;refine (yL z (by omega) _).mono ?_;rintro e w2 ⟨rfl,ac⟩;have ah:=jq (am.out.trans (ac.mono am.out.size));clear ac;rw[H2.out];go_wp2_with fail;refine (JU s z hs hz _).mono ?_;rintro e w3 ⟨rfl,ak⟩;have aA:=jq (ah.out.trans (ak.mono ah.out.size));clear ak;go_wp2_with fail;go_ret2;exact⟨rfl,aA.out⟩
theorem ajK(k:Nat)(h1:1<=k)(h8:k<=8)(s:ByteArray)(hs:s.size<=140737488355328)(n m:Int)(w:World) :
 Calls prog 226 #[.int .i64 k,.agg #[.string s,.int .i64 n,.int .i64 m]] w
  λe w'=>e = .returned (.bool (Np.kn (Np.bV k) ⟨s.data.toList,n,m⟩))/\Below w.heap.size w w':=by
 have hk:k=1\/k=2\/k=3\/k=4\/k=5\/k=6\/k=7\/k=8:=by omega
 rcases hk with rfl | rfl | rfl | rfl | rfl | rfl | rfl | rfl
 all_goals
  go_enter func226,ntmps226;go_wp2_with (first
   | (go_at_call 223;refine (QB _ _ _ _).mono ?_;rintro e w' ⟨rfl,rfl⟩)
   | (go_at_call 50;refine (yL _ hs _).mono ?_;rintro e w' ⟨rfl,hb⟩;obtain⟨hc,hf⟩:=tf hb)
   | (go_at_call 225;refine (EU _ hs _).mono ?_;rintro e w' ⟨rfl,rfl⟩)
   | (go_at_call 300;refine (anZ _ hs _).mono ?_;rintro e w' ⟨rfl,rfl⟩))
  all_goals
   go_ret;go_light;refine⟨ae ?_,?_⟩
   ·simp_all [Np.kn,Np.wP,Np.bV,Np.rules,dQ] <;> (intros;first | omega | (rw[Bool.eq_iff_iff];simp;omega) | (rw[Bool.eq_iff_iff];simp;intros;omega) | (rw[Int.tmod_eq_emod_of_nonneg (by omega)];first | omega | (rw[Bool.eq_iff_iff];simp;omega)) | show False)
   ·first
     | exact (vQ _ w).alloc (bQ _) _
     | exact ((vQ _ w).alloc (bQ _) _).trans (hb.mono (by simp))
theorem QN(k:Nat)(h1:1<=k)(h8:k<=8):(Np.bV k).single=(decide ((k:Int)=3)||decide ((k:Int)=4)):=by
 have hk:k=1\/k=2\/k=3\/k=4\/k=5\/k=6\/k=7\/k=8:=by omega
 rcases hk with rfl | rfl | rfl | rfl | rfl | rfl | rfl | rfl <;> rfl
theorem QO(k:Nat)(h1:1<=k)(h8:k<=8):(Np.bV k).wild=(decide ((k:Int)=1)||decide ((k:Int)=5)||decide ((k:Int)=8)):=by
 have hk:k=1\/k=2\/k=3\/k=4\/k=5\/k=6\/k=7\/k=8:=by omega
 rcases hk with rfl | rfl | rfl | rfl | rfl | rfl | rfl | rfl <;> rfl
theorem ER(k:Nat)(h1:1<=k)(h8:k<=8)(s:ByteArray)(hs:s.size<=140737488355328)(n m:Int)(w:World)(t:Bool)(ht:Np.kn (Np.bV k) ⟨s.data.toList,n,m⟩=t) :
 Calls prog 226 #[.int .i64 k,.agg #[.string s,.int .i64 n,.int .i64 m]] w (aOJ w.heap.size w (.bool t)):=by
 subst ht;exact ajK k h1 h8 s hs n m w
theorem Qw(s t:ByteArray)(n1 m1 n2 m2:Int)(w:World)(r:Bool)(hr:decide (Np.qo ⟨s.data.toList,n1,m1⟩ ⟨t.data.toList,n2,m2⟩<0)=r) :
 Calls prog 227 #[.agg #[.string s,.int .i64 n1,.int .i64 m1],.agg #[.string t,.int .i64 n2,.int .i64 m2]] w (aOJ w.heap.size w (.bool r)):=by
 subst hr;exact alZ s t n1 m1 n2 m2 w
def Un(w1:World)(r:Np.Rule)(ds:List Np.Datum)(i:Value)(wr:World):Prop:=
 ∃ j:Nat,j<=ds.length/\i = .int .i64 j/\Below w1.heap.size w1 wr/\Np.jz r none ds=Np.jz r (ds.take j).getLast? (ds.drop j)
def wF(s:List UInt8)(ty life:Int)(n:Nat):Bool:=Np.aG s&&(decide (1<=ty)&&decide (ty<=8))&&(decide (0<=life)&&decide (life<=100000))&&(decide ((1:Int)<=n)&&decide ((n:Int)<=8))&&!((decide (ty=3)||decide (ty=4))&&decide ((1:Int)<n))
def Me(w:World)(s:ByteArray)(ty life:Int)(sl:Value)(wx:World):Prop:=
 Below w.heap.size w wx/\w.heap.size<wx.heap.size/\wx.cell? ⟨w.heap.size,0,none⟩=some (.string s)/\wx.cell? ⟨w.heap.size,1,none⟩=some (.int .i64 ty)/\wx.cell? ⟨w.heap.size,2,none⟩=some (.int .i64 life)/\wx.cell? ⟨w.heap.size,3,none⟩=some sl
theorem JV(s:ByteArray)(hs:s.size<=140737488355328)(ty life:Int)(v:Value)(ds:List Np.Datum)(w:World)(hd:SlR cA 3 w w.heap.size v ds) :
 Calls prog 150 #[.agg #[.string s,.int .i64 ty,.int .i64 life,v]] w
  λe w'=>e = .returned (.bool (Np.dC ⟨s.data.toList,ty,life,ds⟩))/\Below w.heap.size w w':=by
 have HD:=jq hd;obtain⟨A,c,rfl,be,bC,ic⟩:=hd;clear ic;have iA:¬ (Np.aG s.data.toList=true/\(1<=ty/\ty<=8)/\(0<=life/\life<=100000)/\(1<=ds.length/\ds.length<=8)/\((ty=3\/ty=4)->ds.length<=1)/\(Np.eF s.data.toList=true->ty=1\/ty=5\/ty=8))->Np.dC ⟨s.data.toList,ty,life,ds⟩=false:=λhin=>by
  cases hq:Np.dC ⟨s.data.toList,ty,life,ds⟩ with
  | false=>rfl
  | true=>
   exfalso;unfold Np.dC at hq;simp only[Bool.and_eq_true,Qa,Bool.not_eq_true'] at hq;obtain⟨⟨⟨⟨⟨⟨h1,h2⟩,h3⟩,h4⟩,h5⟩,h6⟩,_⟩:=hq;obtain⟨k,rfl⟩:=Int.eq_ofNat_of_zero_le (by omega:0<=ty);rw[QN k (by omega) (by omega)] at h5;rw[QO k (by omega) (by omega)] at h6;refine hin ⟨h1,h2,h3,h4,λht=>?_,λhw=>?_⟩
   ·simp at h5;omega
   ·rw[hw] at h6;simp at h6;omega
 have mp:=jq iA;clear iA;go_enter func150,ntmps150;go_upto_region 2 with fail
 go_cut [37] (λt wx=>Me w s ty life (.slice A ds.length c) wx/\t = .bool (!wF s.data.toList ty life ds.length))
 case first=>
  go_wp2_with fail;refine (yL _ hs _).mono ?_;rintro e w1 ⟨rfl,hb⟩;have bW:Below w.heap.size w w1:=((vQ _ w).alloc (bQ _) _).trans (hb.mono (by simp));have cI:w.heap.size<w1.heap.size:=by have:=hb.size;simp at this;omega
  have c0:w1.cell? ⟨w.heap.size,0,none⟩=some (.string s):=by rw[hb.cell (by simp)];go_simp
  have c1:w1.cell? ⟨w.heap.size,1,none⟩=some (.int .i64 ty):=by rw[hb.cell (by simp)];go_simp
  have c2:w1.cell? ⟨w.heap.size,2,none⟩=some (.int .i64 life):=by rw[hb.cell (by simp)];go_simp
  have c3:w1.cell? ⟨w.heap.size,3,none⟩=some (.slice A ds.length c):=by rw[hb.cell (by simp)];go_simp
  have HH:=jq (show Me w s ty life (.slice A ds.length c) w1 from ⟨bW,cI,c0,c1,c2,c3⟩);clear hb bW;go_wp2_with (first
   | (go_at_call 223;refine (QB _ _ _ _).mono ?_;rintro e w' ⟨rfl,rfl⟩)
   | (go_at_call 224;refine (amX _ _).mono ?_;rintro e w' ⟨rfl,rfl⟩))
  all_goals
   go_meet
   case rel=>
    refine⟨HH.out,?_⟩;clear HH mp HD;go_light
    first
     | (simp_all [wF];done)
     | (simp_all [wF];omega)
     | (congr 1;rw[Bool.eq_iff_iff];simp_all [wF] <;> omega)
 case rest=>
  obtain⟨⟨bW,Ox,c0,c1,c2,c3⟩,rfl⟩:=hcut;have aD:=jq bW;clear bW
  cases hq:wF s.data.toList ty life ds.length with
  | false=>
   have HQ:=jq hq;clear hq;go_wp2_with fail;go_ret;refine⟨ae (mp.out λ⟨a1,a2,a3,a4,a5,_⟩=>?_).symm,aD.out⟩
   have:=HQ.out
   simp[wF,a1,a2,a3] at this;omega
  | true=>
   have HQ:=jq hq;clear hq;go_upto_region 4 with fail
   go_cut [55] (λt wy=>wy=wc/\t = .bool (Np.eF s.data.toList&&(decide (ty≠1)&&(decide (ty≠5)&&decide (ty≠8)))))
   case first=>
    go_wp2_with (go_at_call 225;refine (EU _ hs _).mono ?_;rintro e w' ⟨rfl,rfl⟩)
    all_goals
     go_meet
     case rel=>
      refine⟨rfl,?_⟩;clear mp HD HQ;go_light
      first
       | (simp_all;done)
       | (simp_all;omega)
       | (congr 1;rw[Bool.eq_iff_iff];simp_all;done)
       | (congr 1;rw[Bool.eq_iff_iff];simp_all;omega)
   case rest=>
    obtain⟨rfl,rfl⟩:=hcut
    cases tR:(Np.eF s.data.toList&&(decide (ty≠1)&&(decide (ty≠5)&&decide (ty≠8)))) with
    | true=>
     have uR:=jq tR;clear tR;go_wp2_with fail;go_ret;refine⟨ae (mp.out λ⟨_,_,_,_,_,a6⟩=>?_).symm,aD.out⟩
     have:=uR.out
     simp at this
     have:=a6 this.1
     omega
    | false=>
     have hin:Np.aG s.data.toList=true/\(1<=ty/\ty<=8)/\(0<=life/\life<=100000)/\(1<=ds.length/\ds.length<=8)/\((ty=3\/ty=4)->ds.length<=1)/\(Np.eF s.data.toList=true->ty=1\/ty=5\/ty=8):=by
      have h:=HQ.out;simp[wF] at h;obtain⟨⟨⟨⟨h1,h2⟩,h3⟩,h4⟩,h5⟩:=h;refine⟨h1,h2,h3,by omega,by omega,λhw=>?_⟩;rw[hw] at tR;simp at tR;omega
     obtain⟨i1,⟨i2,i3⟩,⟨i4,i5⟩,⟨i6,i7⟩,i8,i9⟩:=hin;obtain⟨k,rfl⟩:=Int.eq_ofNat_of_zero_le (by omega:0<=ty);have hv:Np.dC ⟨s.data.toList,k,life,ds⟩=Np.jz (Np.bV k) none ds:=by
      unfold Np.dC;simp only[QN k (by omega) (by omega),QO k (by omega) (by omega),i1,uQ i2,uQ i3,uQ i4,uQ i5,uQ i6,uQ i7,Bool.true_and];have e1:((decide ((k:Int)=3)||decide ((k:Int)=4))&&decide (ds.length≠1))=false:=by
       rw[Bool.eq_false_iff];simp;omega
      have e2:(Np.eF s.data.toList&&!(decide ((k:Int)=1)||decide ((k:Int)=5)||decide ((k:Int)=8)))=false:=by
       cases hw:Np.eF s.data.toList with
       | false=>rfl
       | true=>have:=i9 hw;simp;omega
      rw[e1,e2];rfl
     have HV:=jq hv;have vF:1<=k:=by omega
     have DR:k<=8:=by omega
     clear hv i8 i9 tR i1 c0 c2 mp HQ;go_wp2_with fail;go_loopw [4] (λi wr=>Un wc (Np.bV k) ds i wr) (λi _=>ds.length - (intOf i).toNat)
     case atStart=>exact⟨0,jQ _,rfl,vQ _ _,rfl⟩
     case round=>
      obtain⟨j,hj,rfl,aB,hg⟩:=hrel;have HG:=jq hg;clear hg;by_cases aa:j<ds.length
      ·have Jr:=aB.size;have lS:Below w.heap.size w wr:=aD.out.trans (aB.aKZ);have Yx:w.heap.size<wr.heap.size:=by omega
       have d1:wr.cell? ⟨w.heap.size,1,none⟩=some (.int .i64 k):=by rw[aB.cell (by simpa using Ox)];exact c1
       have d3:wr.cell? ⟨w.heap.size,3,none⟩=some (.slice A ds.length c):=by rw[aB.cell (by simpa using Ox)];exact c3
       obtain⟨A',c',hA',_,_,aY⟩:=HD.out.keep bD lS
       cases hA'
       obtain⟨b,o,e,rfl,bj,_,hce,sd,tU,tV,rfl⟩:=aY j _ (aQ aa);have e0:wr.cell? ⟨b,o+j * 3,none⟩=some (.string sd):=hce 0 _ rfl;have e1:wr.cell? ⟨b,o+j * 3+1,none⟩=some (.int .i64 ds[j].n):=hce 1 _ rfl;have e2:wr.cell? ⟨b,o+j * 3+2,none⟩=some (.int .i64 ds[j].m):=hce 2 _ rfl;have bR:b<wr.heap.size:=by omega
       have nA:∀ (g:bO wr) (p:Addr),p.block<wr.heap.size->g.w.cell? p=wr.cell? p:=λg p h=>g.cell p h;have aO:=jq aB;have xo:=jq lS;have xq:=jq aY;have xL:=jq tU;have AY:(⟨sd.data.toList,ds[j].n,ds[j].m⟩:Np.Datum)=ds[j]:=by rw[xL.out]
       have rg:=jq AY;clear hce aB lS aY tU c1 c3 AY Jr;by_cases sk:Np.kn (Np.bV k) ⟨sd.data.toList,ds[j].n,ds[j].m⟩=true
       ·have lj:=jq sk;clear sk;by_cases jD:j=0
        ·subst jD;simp only[Nat.zero_mul,Nat.add_zero] at e0 e1 e2;go_wp2_with fail;refine aMQ ?_
         repeat (go_big_quiet_step ((go_at_call 226;exact Calls.grow_of (ER _ vF DR _ tV _ _ _ true lj.out))))
         refine wpQuiet_nil ?_;rintro _ ⟨g,rfl⟩;go_wp2_with fail;go_roundw
         case rel=>
          go_light;have h1:=Np.Nf (r:=Np.bV k) (aQ aa) (by rw[<-rg.out];exact lj.out);exact⟨1,aa,by go_num,aO.out.trans (g.below.mono aO.out.size),by rw[<-h1];exact HG.out⟩
         case measure=>simp[intOf] <;> omega
        ·obtain⟨i,rfl⟩:∃ i,j=i+1:=⟨j - 1,by omega⟩;obtain⟨b',o',e',pu,AO,_,nu,sq,kR,Yk,rfl⟩:=xq.out i _ (aQ (by omega))
         cases pu
         have f0:wr.cell? ⟨b,o+i * 3,none⟩=some (.string sq):=nu 0 _ rfl;have f1:wr.cell? ⟨b,o+i * 3+1,none⟩=some (.int .i64 (ds[i]'(by omega)).n):=nu 1 _ rfl;have f2:wr.cell? ⟨b,o+i * 3+2,none⟩=some (.int .i64 (ds[i]'(by omega)).m):=nu 2 _ rfl;have AX:(⟨sq.data.toList,(ds[i]'(by omega)).n,(ds[i]'(by omega)).m⟩:Np.Datum)=ds[i]'(by omega):=by rw[kR]
         have FJ:=jq AX;clear nu kR AX;have jh:(0:Int)<((i+1:Nat):Int):=by omega
         have h1:=Np.Ng (r:=Np.bV k) (aQ (by omega:i<ds.length)) (aQ aa) (by rw[<-rg.out];exact lj.out);rw[<-rg.out,<-FJ.out] at h1;have H1:=jq h1;clear h1;by_cases gj:Np.qo ⟨sq.data.toList,(ds[i]'(by omega)).n,(ds[i]'(by omega)).m⟩ ⟨sd.data.toList,ds[i+1].n,ds[i+1].m⟩<0
         ·have lc:=jq gj;have FE:=jq (uQ gj);clear gj;go_wp2_with fail;refine aMQ ?_
          repeat (go_big_quiet_step (first
           | (go_at_call 226;exact Calls.grow_of (ER _ vF DR _ tV _ _ _ true lj.out))
           | (go_at_call 227;exact Calls.grow_of (Qw _ _ _ _ _ _ _ true FE.out))))
          refine wpQuiet_nil ?_;rintro _ ⟨g,rfl⟩;go_wp2_with fail;go_roundw
          case rel=>
           go_light;exact⟨i+1+1,aa,by go_num,aO.out.trans (g.below.mono aO.out.size),by rw[HG.out,H1.out,Qb lc.out]⟩
          case measure=>simp[intOf] <;> omega
         ·have lc:=jq gj;have FE:=jq (tQ gj);clear gj;go_wp2_with fail;refine aMQ ?_
          repeat (go_big_quiet_step (first
           | (go_at_call 226;exact Calls.grow_of (ER _ vF DR _ tV _ _ _ true lj.out))
           | (go_at_call 227;exact Calls.grow_of (Qw _ _ _ _ _ _ _ false FE.out))))
          refine wpQuiet_nil ?_;rintro _ ⟨g,rfl⟩;go_wp2_with fail;go_ret;refine⟨ae ?_,xo.out.trans (g.below.aKZ)⟩;rw[HV.out,HG.out,H1.out,Qc (by have:=lc.out;omega)]
       ·have BX:Np.kn (Np.bV k) ⟨sd.data.toList,ds[j].n,ds[j].m⟩=false:=by simpa using sk
        have lj:=jq BX;clear sk BX;go_wp2_with fail;refine aMQ ?_
        repeat (go_big_quiet_step ((go_at_call 226;exact Calls.grow_of (ER _ vF DR _ tV _ _ _ false lj.out))))
        refine wpQuiet_nil ?_;rintro _ ⟨g,rfl⟩;go_wp2_with fail;go_ret;refine⟨ae ?_,xo.out.trans (g.below.aKZ)⟩;rw[HV.out,HG.out,Np.Nd (aQ aa) (by rw[<-rg.out];exact lj.out)]
      ·go_wp2_with fail;go_ret;refine⟨ae ?_,aD.out.trans (aB.aKZ)⟩;rw[HV.out,HG.out,List.drop_eq_nil_of_le (by omega)];rfl
theorem yH{s:ByteArray}(h:Np.aG s.data.toList=true):s.size<=60:=by
 rw[Np.Ru] at h;split at h
 ·rename_i e;rw[<-bk,e];decide
 ·split at h
  ·cases h
  ·rename_i h6;rw[bk] at h6;omega
theorem amJ(s1 s2:ByteArray)(t1 l1 t2 l2:Int)(v1 v2:Value)(d1 d2:List Np.Datum)(n1:Np.aG s1.data.toList=true)(n2:Np.aG s2.data.toList=true)(w:World) :
 Calls prog 234 #[.agg #[.string s1,.int .i64 t1,.int .i64 l1,v1],.agg #[.string s2,.int .i64 t2,.int .i64 l2,v2]] w
  λe w'=>e = .returned (.int .i64 (Np.hZ ⟨s1.data.toList,t1,l1,d1⟩ ⟨s2.data.toList,t2,l2,d2⟩))/\Below w.heap.size w w':=by
 have hw:∀ o o',Below w.heap.size w ((w.alloc o).alloc o'):=λo o'=>((vQ _ w).alloc (bQ _) _).alloc (by simp) _;have HW:=jq hw;clear hw;have ba:=yH n1;have aN:=yH n2;have N1:=jq n1;have N2:=jq n2;have hc:=Np.Dl ⟨s1.data.toList,t1,l1,d1⟩ ⟨s2.data.toList,t2,l2,d2⟩;simp only at hc;rw[hc];clear n1 n2 hc;generalize hQ:Np.aI s1.data.toList s2.data.toList=q;have HQ:=jq hQ;clear hQ;have key:∀ r:Int,(q≠0->r=q)->(q=0->r=Np.cP t1 t2)->(if q≠0 then q else Np.cP t1 t2)=r:=λr h1 h2=>by
  by_cases h:q=0
  ·rw[Qc (λe=>e h),h2 h]
  ·rw[Qb h,h1 h]
 have KEY:=jq key;clear key;by_cases hq:q=0
 ·have KQ:=jq hq;subst hq;by_cases h1:t1<t2
  ·rw[KEY.out (-1) (λe=>absurd rfl e) (λ_=>by rw[Np.cP,Qb h1])];go_enter func234,ntmps234;go_wp2_with fail;refine (EQ s1 s2 (by omega) (by omega) N1.out N2.out _).mono ?_;rw[HQ.out];rintro e w1 ⟨rfl,hb⟩;obtain⟨be,oH⟩:=tf hb;have HB:=jq ((HW.out _ _).trans (hb.mono (by simp;omega)));clear hb;go_wp2_with fail;go_ret;exact⟨rfl,HB.out⟩
  ·by_cases h2:t2<t1
   ·rw[KEY.out 1 (λe=>absurd rfl e) (λ_=>by rw[Np.cP,Qc h1,Qb h2])];go_enter func234,ntmps234;go_wp2_with fail;refine (EQ s1 s2 (by omega) (by omega) N1.out N2.out _).mono ?_;rw[HQ.out];rintro e w1 ⟨rfl,hb⟩;obtain⟨be,oH⟩:=tf hb;have HB:=jq ((HW.out _ _).trans (hb.mono (by simp;omega)));clear hb;go_wp2_with fail;go_ret;exact⟨rfl,HB.out⟩
   ·rw[KEY.out 0 (λe=>absurd rfl e) (λ_=>by rw[Np.cP,Qc h1,Qc h2])];go_enter func234,ntmps234;go_wp2_with fail;refine (EQ s1 s2 (by omega) (by omega) N1.out N2.out _).mono ?_;rw[HQ.out];rintro e w1 ⟨rfl,hb⟩;obtain⟨be,oH⟩:=tf hb;have HB:=jq ((HW.out _ _).trans (hb.mono (by simp;omega)));clear hb;go_wp2_with fail;go_ret;exact⟨rfl,HB.out⟩
 ·have tR:(q != 0)=true:=by simpa using hq
  rw[KEY.out q (λ_=>rfl) (λe=>absurd e hq)];clear hq;go_enter func234,ntmps234;go_wp2_with fail;refine (EQ s1 s2 (by omega) (by omega) N1.out N2.out _).mono ?_;rw[HQ.out];rintro e w1 ⟨rfl,hb⟩;obtain⟨be,oH⟩:=tf hb;have HB:=jq ((HW.out _ _).trans (hb.mono (by simp;omega)));clear hb;go_wp2_with fail;go_ret;exact⟨rfl,HB.out⟩
end
section
open Go.RowKit Go.MapKept
def m9(r:Nat)(kvs:List (Int×Value))(w:World):Prop:=∃ es c,w.heap[r]?=some (.map es c)/\es.toList.map (λe=>(e.key,e.val))=kvs.map λp=>(Value.int .i64 p.1,p.2)
theorem m9.lt{r:Nat}{kvs:List (Int×Value)}{w:World}(h:m9 r kvs w):r<w.heap.size:=by
 obtain⟨es,c,h,_⟩:=h;exact (eQ.1 h).1
theorem m9.keep{r:Nat}{kvs:List (Int×Value)}{w w':World}{n:Nat}(h:m9 r kvs w)(hb:Below n w w')(hn:r<n):m9 r kvs w':=by
 obtain⟨es,c,h,h2⟩:=h;exact⟨es,c,(hb.block r hn).trans h,h2⟩
theorem m9.made(w:World):m9 w.heap.size [] (w.alloc (.map #[] 0)):=⟨#[],0,heap_alloc_new _ _,rfl⟩
theorem M3(x:Int):∀ (es:List MapEntry) (kvs:List (Int×Value)) (i:Nat),es.map (λe=>(e.key,e.val))=kvs.map (λp=>(Value.int .i64 p.1,p.2))->
 (∀ v,kvs.lookup x=some v->∃ j,Instr.findNow (.int .i64) (.int .i64 x) es i=some (some (j,v)))/\(kvs.lookup x=none->Instr.findNow (.int .i64) (.int .i64 x) es i=some none):=by
 intro es
 induction es with
 | nil=>
  intro kvs i h
  cases kvs with
  | nil=>exact⟨λv hv=>by simp at hv,λ_=>rfl⟩
  | cons=>simp at h
 | cons e es ih=>
  intro kvs i h
  cases kvs with
  | nil=>simp at h
  | cons p kvs=>
   obtain⟨y,u⟩:=p;simp only[List.map_cons,List.cons.injEq,Prod.mk.injEq] at h;obtain⟨⟨h1,h2⟩,h3⟩:=h;have hs:Instr.sameNow (.int .i64) (.int .i64 x) e.key=some (x == y):=by rw[h1];simp[Instr.sameNow]
   by_cases bZ:x=y
   ·subst bZ;have hb:(x == x)=true:=by simp
    rw[hb] at hs;refine⟨λv hv=>⟨i,?_⟩,λhv=>?_⟩
    ·rw[List.lookup_cons_self] at hv;simp only[Instr.findNow,hs]
     cases hv
     rw[h2]
    ·rw[List.lookup_cons_self] at hv;cases hv
   ·have hb:(x == y)=false:=by simpa using bZ
    rw[hb] at hs;have hl:((y,u)::kvs).lookup x=kvs.lookup x:=by rw[List.lookup_cons,hb]
    rw[hl];obtain⟨i1,i2⟩:=ih kvs (i+1) h3;refine⟨λv hv=>?_,λhv=>?_⟩
    ·obtain⟨j,hj⟩:=i1 v hv;exact⟨j,by simp only[Instr.findNow,hs];exact hj⟩
    ·simp only[Instr.findNow,hs];exact i2 hv
section
variable {P:Program} {ops:Array Oper} {rest:List Oper} {o:Oper} {a:Act} {Q:Exit->Act->World->Prop}
theorem aFX(w:World)(hg:o.guard=none)(m x v:Operand)(t:TypeId)(iB:o.op=Op.mapUpdate t m x v)(kt et:TypeId)(ht:P.underlying t=some (.map kt et))(hk:P.underlying kt=some (.int .i64))
 (r:Nat) (kvs:List (Int×Value)) (hm:a.eval m = .map (some r)) (hr:m9 r kvs w) (key:Int) (hx:a.eval x = .int .i64 key) (val:Value) (hv:a.eval v=val) (iA:kvs.lookup key=none)
 (hK:∀ w',m9 r (kvs ++ [(key,val)]) w'->Turned r w w'->wpList P ops Q rest (a.put o.dst undef) w'):wpList P ops Q (o::rest) a w:=by
 obtain⟨es,c,hr,he⟩:=hr;have hf:=(M3 key es.toList kvs 0 he).2 iA;refine wpList_plain hg λK' hK'=>?_;have hc:(Instr.checkKey false 10000 kt (.int .i64 key)).run P w = .ok () w:=MapKept.run_checkKey (k:=.int .i64 key) hk (by simp[MapKept.IsKey]) false 9999;have dh:(Instr.mapUpdate t (.map (some r)) (.int .i64 key) val).run P w = .ok () { w with heap:=w.heap.setIfInBounds r (.map (es.push { key:=.int .i64 key,val:=val,born:=c }) (c+1)) }:=by
  simp[Instr.mapUpdate,run_underlying ht,MapKept.run_getObj_map hr,hc,MapKept.run_findKey hk hf,MapKept.run_setObj_map _ hr,Result.andThen]
 unfold Oper.wp;simp[execOp,iB,hm,hx,hv,dh,Result.andThen];have hl:r<w.heap.size:=(eQ.1 hr).1;refine hK' _ _ (hK _ ⟨_,_,by simp[hl];exact⟨rfl,rfl⟩,by simp[he]⟩ ⟨rfl,rfl,rfl,by simp,λi hi=>by simp[Ne.symm hi]⟩)
theorem aqJ(w:World)(t kt et:TypeId)(ht:P.underlying t=some (.map kt et))(hk:P.underlying kt=some (.int .i64))(r:Nat)(kvs:List (Int×Value))(hr:m9 r kvs w)(key:Int)(z:Value)(hz:(zeroValue et).run P w = .ok z w) :
 (Instr.lookup t (.map (some r)) (.int .i64 key) false).run P w = .ok ((kvs.lookup key).getD z) w:=by
 obtain⟨es,c,hr,he⟩:=hr;have hf:=M3 key es.toList kvs 0 he;have hc:∀ b,(Instr.checkKey b 10000 kt (.int .i64 key)).run P w = .ok () w:=λb=>MapKept.run_checkKey (k:=.int .i64 key) hk (by simp[MapKept.IsKey]) b 9999
 cases hl:kvs.lookup key with
 | none=>simp[Instr.lookup,run_underlying ht,MapKept.run_getObj_map hr,hc,MapKept.run_findKey hk (hf.2 hl),Result.andThen,hz]
 | some v=>
  obtain⟨j,hj⟩:=hf.1 v hl;simp[Instr.lookup,run_underlying ht,MapKept.run_getObj_map hr,hc,MapKept.run_findKey hk hj,Result.andThen]
end
def pP(p:Int×List UInt8):Value:=.agg #[.int .i64 p.1,aC p.2]
def jU(r:Nat)(kvs:List ((Int×List UInt8)×Value))(w:World):Prop:=∃ es,w.heap[r]?=some (.map es es.size)/\es.toList.map (λe=>(e.key,e.val))=kvs.map (λp=>(pP p.1,p.2))/\∀ (i:Nat) (e:MapEntry),es[i]?=some e->e.born=i
theorem jU.lt{r:Nat}{kvs:List ((Int×List UInt8)×Value)}{w:World}(h:jU r kvs w):r<w.heap.size:=by
 obtain⟨es,h,_⟩:=h;exact (eQ.1 h).1
theorem jU.keep{r:Nat}{kvs:List ((Int×List UInt8)×Value)}{w w':World}{n:Nat}(h:jU r kvs w)(hb:Below n w w')(hn:r<n):jU r kvs w':=by
 obtain⟨es,h,h2⟩:=h;exact⟨es,(hb.block r hn).trans h,h2⟩
theorem jU.keep'{r:Nat}{kvs:List ((Int×List UInt8)×Value)}{w w':World}(h:jU r kvs w)(hb:w'.heap[r]?=w.heap[r]?):jU r kvs w':=by
 obtain⟨es,h,h2⟩:=h;exact⟨es,hb.trans h,h2⟩
theorem jU.made(w:World):jU w.heap.size [] (w.alloc (.map #[] 0)):=⟨#[],heap_alloc_new _ _,rfl,λi e h=>by simp at h⟩
theorem VK(p q:Int×List UInt8)(w:World):(Op.equal 301 (pP p) (pP q)).run prog w = .ok (decide (p=q)) w:=by
 obtain⟨n,a⟩:=p;obtain⟨m,b⟩:=q;have u3:=underlying3;have a3:=isAgg3;have z3:=sizeOf3;have u9:=underlying9;have a9:=isAgg9;have z9:=sizeOf9;have hS:prog.underlying 301=some (.struct (prog.fieldsOf 301)):=by kernel_rfl
 have hp:prog.stoodInHeld 301=false:=by kernel_rfl
 show (Op.equalIn 10000 301 (.agg #[.int .i64 n,.string ⟨a.toArray⟩]) (.agg #[.int .i64 m,.string ⟨b.toArray⟩])).run prog w=_;rw[show (10000:Nat)=9999+1 from rfl,run_equalIn_agg w 9999 301 _ _ hS hp];simp only[Program.fieldsOf,underlying301];go_simp;by_cases h0:a=b <;> by_cases h1:n=m <;> simp[h0,h1]
theorem MA(b:Bool)(p:Int×List UInt8)(w:World):(Instr.checkKey b 10000 301 (pP p)).run prog w = .ok () w:=by
 have hS:=underlying301;have hs:∀ s w,(Instr.checkKey b 9999 9 (.string s)).run prog w = .ok () w:=λs w=>MapKept.run_checkKey (k:=.string s) underlying9 (by simp[MapKept.IsKey]) b 9998;have hi:∀ n w,(Instr.checkKey b 9999 3 (.int .i64 n)).run prog w = .ok () w:=λn w=>MapKept.run_checkKey (k:=.int .i64 n) underlying3 (by simp[MapKept.IsKey]) b 9998;have a3:=isAgg3;have z3:=sizeOf3;have a9:=isAgg9;have z9:=sizeOf9;rw[show (10000:Nat)=9999+1 from rfl,Instr.checkKey];simp only[pP,aC];simp[run_underlying hS,go_sem,Result.andThen,hs,hi]
theorem VT{fs:Array Field}{k:Value}{e:MapEntry}{es:List MapEntry}(i:Nat):Instr.findNow (.struct fs) k (e::es) i=none:=by
 simp only[Instr.findNow];rfl
theorem Ms(p:Int×List UInt8)(w:World):∀ (es:List MapEntry) (kvs:List ((Int×List UInt8)×Value)) (i:Nat),es.map (λe=>(e.key,e.val))=kvs.map (λq=>(pP q.1,q.2))->
 (∀ v,kvs.lookup p=some v->∃ j,(es[j]?).map (λe=>(e.key,e.val))=some (pP p,v)/\kvs[j]?=some (p,v)/\(Instr.findAsking 301 (pP p) es i).run prog w = .ok (some (i+j,v)) w)/\(kvs.lookup p=none->(Instr.findAsking 301 (pP p) es i).run prog w = .ok none w)
 | [],kvs,i,h=>by
   cases kvs with
   | nil=>exact⟨λv h=>by simp at h,λ_=>by rw[Instr.findAsking];rfl⟩
   | cons=>simp at h
 | e::es,kvs,i,h=>by
   cases kvs with
   | nil=>simp at h
   | cons q kvs=>
    obtain⟨q,u⟩:=q;simp only[List.map_cons,List.cons.injEq,Prod.mk.injEq] at h;obtain⟨⟨h1,h2⟩,h3⟩:=h;obtain⟨i1,i2⟩:=Ms p w es kvs (i+1) h3;have hq:=VK p q w;rw[<-h1] at hq;by_cases rX:p=q
    ·have hd:decide (p=q)=true:=by simpa using rX
     rw[hd] at hq;have hr:(Instr.findAsking 301 (pP p) (e::es) i).run prog w = .ok (some (i,u)) w:=by
      rw[Instr.findAsking];simp[hq,h2]
     subst rX;refine⟨λv hv=>⟨0,?_,?_,?_⟩,λhn=>?_⟩
     ·rw[List.lookup_cons_self] at hv;cases hv;simp[h1,h2]
     ·rw[List.lookup_cons_self] at hv;cases hv;rfl
     ·rw[List.lookup_cons_self] at hv;cases hv;exact hr
     ·rw[List.lookup_cons_self] at hn;cases hn
    ·have hd:decide (p=q)=false:=by simpa using rX
     rw[hd] at hq;have hb:(p == q)=false:=by simpa using rX
     have hr:(Instr.findAsking 301 (pP p) (e::es) i).run prog w=(Instr.findAsking 301 (pP p) es (i+1)).run prog w:=by
      rw[Instr.findAsking];simp[hq]
     have hl:((q,u)::kvs).lookup p=kvs.lookup p:=by rw[List.lookup_cons,hb]
     rw[hr,hl];refine⟨λv hv=>?_,i2⟩;obtain⟨j,j1,j2,j3⟩:=i1 v hv;exact⟨j+1,by simpa using j1,by simpa using j2,by rw[show i+(j+1)=i+1+j by omega];exact j3⟩
theorem M4(p:Int×List UInt8)(w:World)(es:List MapEntry)(kvs:List ((Int×List UInt8)×Value))(h:es.map (λe=>(e.key,e.val))=kvs.map (λq=>(pP q.1,q.2))) :
 (∀ v,kvs.lookup p=some v->∃ j,(es[j]?).map (λe=>(e.key,e.val))=some (pP p,v)/\kvs[j]?=some (p,v)/\(Instr.findKey 301 (pP p) es).run prog w = .ok (some (j,v)) w)/\(kvs.lookup p=none->(Instr.findKey 301 (pP p) es).run prog w = .ok none w):=by
 have hS:=underlying301
 cases es with
 | nil=>
  cases kvs with
  | nil=>exact⟨λv h=>by simp at h,λ_=>by simp[Instr.findKey,run_underlying hS,Instr.findNow]⟩
  | cons=>simp at h
 | cons e es=>
  obtain⟨i1,i2⟩:=Ms p w (e::es) kvs 0 h;have hr:(Instr.findKey 301 (pP p) (e::es)).run prog w=(Instr.findAsking 301 (pP p) (e::es) 0).run prog w:=by
   simp[Instr.findKey,run_underlying hS,VT]
  rw[hr];refine⟨λv hv=>?_,i2⟩;obtain⟨j,j1,j2,j3⟩:=i1 v hv;exact⟨j,j1,j2,by rw[j3,Nat.zero_add]⟩
theorem aqZ(w:World)(t et:TypeId)(ht:prog.underlying t=some (.map 301 et))(r:Nat)(kvs:List ((Int×List UInt8)×Value))(hr:jU r kvs w)(p:Int×List UInt8)(z:Value)(hz:(zeroValue et).run prog w = .ok z w) :
 (Instr.lookup t (.map (some r)) (pP p) false).run prog w = .ok ((kvs.lookup p).getD z) w:=by
 obtain⟨es,hr,he,_⟩:=hr;have hf:=M4 p w es.toList kvs he;have hc:∀ b,(Instr.checkKey b 10000 301 (pP p)).run prog w = .ok () w:=λb=>MA b p w
 cases hl:kvs.lookup p with
 | none=>simp[Instr.lookup,run_underlying ht,MapKept.run_getObj_map hr,hc,hf.2 hl,Result.andThen,hz]
 | some v=>
  obtain⟨j,_,_,hj⟩:=hf.1 v hl;simp[Instr.lookup,run_underlying ht,MapKept.run_getObj_map hr,hc,hj,Result.andThen]
theorem aFK{ops:Array Oper}{rest:List Oper}{o:Oper}{a:Act}{Q:Exit->Act->World->Prop}(w:World)(hg:o.guard=none)(m x v:Operand)(t:TypeId)(iB:o.op=Op.mapUpdate t m x v)(et:TypeId)(ht:prog.underlying t=some (.map 301 et))
 (r:Nat) (kvs:List ((Int×List UInt8)×Value)) (hm:a.eval m = .map (some r)) (hr:jU r kvs w) (p:Int×List UInt8) (hx:a.eval x=pP p) (val:Value) (hv:a.eval v=val) (iA:kvs.lookup p=none)
 (hK:∀ w',jU r (kvs ++ [(p,val)]) w'->Turned r w w'->wpList prog ops Q rest (a.put o.dst undef) w'):wpList prog ops Q (o::rest) a w:=by
 obtain⟨es,hr,he,lw⟩:=hr;have hf:=(M4 p w es.toList kvs he).2 iA;refine wpList_plain hg λK' hK'=>?_;have hc:(Instr.checkKey false 10000 301 (pP p)).run prog w = .ok () w:=MA false p w;have dh:(Instr.mapUpdate t (.map (some r)) (pP p) val).run prog w = .ok () { w with heap:=w.heap.setIfInBounds r (.map (es.push { key:=pP p,val:=val,born:=es.size }) (es.size+1)) }:=by
  simp[Instr.mapUpdate,run_underlying ht,MapKept.run_getObj_map hr,hc,hf,MapKept.run_setObj_map _ hr,Result.andThen]
 unfold Oper.wp;simp[execOp,iB,hm,hx,hv,dh,Result.andThen];have hl:r<w.heap.size:=(eQ.1 hr).1;refine hK' _ _ (hK _ ⟨es.push { key:=pP p,val:=val,born:=es.size },by simp[hl],by simp[he],λi e hi=>?_⟩ ⟨rfl,rfl,rfl,by simp,λi hi=>by simp[Ne.symm hi]⟩);rw[Array.getElem?_push] at hi;split at hi
 ·rename_i h1;cases hi;exact h1.symm
 ·exact lw i e hi
def pH(p:Int×List UInt8):Value:=.agg #[.int .i64 p.1,aC p.2]
def oi(r:Nat)(kvs:List ((Int×List UInt8)×Value))(w:World):Prop:=∃ es,w.heap[r]?=some (.map es es.size)/\es.toList.map (λe=>(e.key,e.val))=kvs.map (λp=>(pH p.1,p.2))/\∀ (i:Nat) (e:MapEntry),es[i]?=some e->e.born=i
theorem oi.lt{r:Nat}{kvs:List ((Int×List UInt8)×Value)}{w:World}(h:oi r kvs w):r<w.heap.size:=by
 obtain⟨es,h,_⟩:=h;exact (eQ.1 h).1
theorem oi.keep{r:Nat}{kvs:List ((Int×List UInt8)×Value)}{w w':World}{n:Nat}(h:oi r kvs w)(hb:Below n w w')(hn:r<n):oi r kvs w':=by
 obtain⟨es,h,h2⟩:=h;exact⟨es,(hb.block r hn).trans h,h2⟩
theorem oi.keep'{r:Nat}{kvs:List ((Int×List UInt8)×Value)}{w w':World}(h:oi r kvs w)(hb:w'.heap[r]?=w.heap[r]?):oi r kvs w':=by
 obtain⟨es,h,h2⟩:=h;exact⟨es,hb.trans h,h2⟩
theorem oi.made(w:World):oi w.heap.size [] (w.alloc (.map #[] 0)):=⟨#[],heap_alloc_new _ _,rfl,λi e h=>by simp at h⟩
theorem VJ(p q:Int×List UInt8)(w:World):(Op.equal 186 (pH p) (pH q)).run prog w = .ok (decide (p=q)) w:=by
 obtain⟨n,a⟩:=p;obtain⟨m,b⟩:=q;have u3:=underlying3;have a3:=isAgg3;have z3:=sizeOf3;have u9:=underlying9;have a9:=isAgg9;have z9:=sizeOf9;have hS:prog.underlying 186=some (.struct (prog.fieldsOf 186)):=by kernel_rfl
 have hp:prog.stoodInHeld 186=false:=by kernel_rfl
 show (Op.equalIn 10000 186 (.agg #[.int .i64 n,.string ⟨a.toArray⟩]) (.agg #[.int .i64 m,.string ⟨b.toArray⟩])).run prog w=_;rw[show (10000:Nat)=9999+1 from rfl,run_equalIn_agg w 9999 186 _ _ hS hp];simp only[Program.fieldsOf,underlying186];go_simp;by_cases h0:a=b <;> by_cases h1:n=m <;> simp[h0,h1]
theorem U6(b:Bool)(p:Int×List UInt8)(w:World):(Instr.checkKey b 10000 186 (pH p)).run prog w = .ok () w:=by
 have hS:=underlying186;have hs:∀ s w,(Instr.checkKey b 9999 9 (.string s)).run prog w = .ok () w:=λs w=>MapKept.run_checkKey (k:=.string s) underlying9 (by simp[MapKept.IsKey]) b 9998;have hi:∀ n w,(Instr.checkKey b 9999 3 (.int .i64 n)).run prog w = .ok () w:=λn w=>MapKept.run_checkKey (k:=.int .i64 n) underlying3 (by simp[MapKept.IsKey]) b 9998;have a3:=isAgg3;have z3:=sizeOf3;have a9:=isAgg9;have z9:=sizeOf9;rw[show (10000:Nat)=9999+1 from rfl,Instr.checkKey];simp only[pH,aC];simp[run_underlying hS,go_sem,Result.andThen,hs,hi]
theorem VS{fs:Array Field}{k:Value}{e:MapEntry}{es:List MapEntry}(i:Nat):Instr.findNow (.struct fs) k (e::es) i=none:=by
 simp only[Instr.findNow];rfl
theorem Mr(p:Int×List UInt8)(w:World):∀ (es:List MapEntry) (kvs:List ((Int×List UInt8)×Value)) (i:Nat),es.map (λe=>(e.key,e.val))=kvs.map (λq=>(pH q.1,q.2))->
 (∀ v,kvs.lookup p=some v->∃ j,(es[j]?).map (λe=>(e.key,e.val))=some (pH p,v)/\kvs[j]?=some (p,v)/\(Instr.findAsking 186 (pH p) es i).run prog w = .ok (some (i+j,v)) w)/\(kvs.lookup p=none->(Instr.findAsking 186 (pH p) es i).run prog w = .ok none w)
 | [],kvs,i,h=>by
   cases kvs with
   | nil=>exact⟨λv h=>by simp at h,λ_=>by rw[Instr.findAsking];rfl⟩
   | cons=>simp at h
 | e::es,kvs,i,h=>by
   cases kvs with
   | nil=>simp at h
   | cons q kvs=>
    obtain⟨q,u⟩:=q;simp only[List.map_cons,List.cons.injEq,Prod.mk.injEq] at h;obtain⟨⟨h1,h2⟩,h3⟩:=h;obtain⟨i1,i2⟩:=Mr p w es kvs (i+1) h3;have hq:=VJ p q w;rw[<-h1] at hq;by_cases rX:p=q
    ·have hd:decide (p=q)=true:=by simpa using rX
     rw[hd] at hq;have hr:(Instr.findAsking 186 (pH p) (e::es) i).run prog w = .ok (some (i,u)) w:=by
      rw[Instr.findAsking];simp[hq,h2]
     subst rX;refine⟨λv hv=>⟨0,?_,?_,?_⟩,λhn=>?_⟩
     ·rw[List.lookup_cons_self] at hv;cases hv;simp[h1,h2]
     ·rw[List.lookup_cons_self] at hv;cases hv;rfl
     ·rw[List.lookup_cons_self] at hv;cases hv;exact hr
     ·rw[List.lookup_cons_self] at hn;cases hn
    ·have hd:decide (p=q)=false:=by simpa using rX
     rw[hd] at hq;have hb:(p == q)=false:=by simpa using rX
     have hr:(Instr.findAsking 186 (pH p) (e::es) i).run prog w=(Instr.findAsking 186 (pH p) es (i+1)).run prog w:=by
      rw[Instr.findAsking];simp[hq]
     have hl:((q,u)::kvs).lookup p=kvs.lookup p:=by rw[List.lookup_cons,hb]
     rw[hr,hl];refine⟨λv hv=>?_,i2⟩;obtain⟨j,j1,j2,j3⟩:=i1 v hv;exact⟨j+1,by simpa using j1,by simpa using j2,by rw[show i+(j+1)=i+1+j by omega];exact j3⟩
theorem VQ(p:Int×List UInt8)(w:World)(es:List MapEntry)(kvs:List ((Int×List UInt8)×Value))(h:es.map (λe=>(e.key,e.val))=kvs.map (λq=>(pH q.1,q.2))) :
 (∀ v,kvs.lookup p=some v->∃ j,(es[j]?).map (λe=>(e.key,e.val))=some (pH p,v)/\kvs[j]?=some (p,v)/\(Instr.findKey 186 (pH p) es).run prog w = .ok (some (j,v)) w)/\(kvs.lookup p=none->(Instr.findKey 186 (pH p) es).run prog w = .ok none w):=by
 have hS:=underlying186
 cases es with
 | nil=>
  cases kvs with
  | nil=>exact⟨λv h=>by simp at h,λ_=>by simp[Instr.findKey,run_underlying hS,Instr.findNow]⟩
  | cons=>simp at h
 | cons e es=>
  obtain⟨i1,i2⟩:=Mr p w (e::es) kvs 0 h;have hr:(Instr.findKey 186 (pH p) (e::es)).run prog w=(Instr.findAsking 186 (pH p) (e::es) 0).run prog w:=by
   simp[Instr.findKey,run_underlying hS,VS]
  rw[hr];refine⟨λv hv=>?_,i2⟩;obtain⟨j,j1,j2,j3⟩:=i1 v hv;exact⟨j,j1,j2,by rw[j3,Nat.zero_add]⟩
end
section
open Go.RowKit
theorem ZU(a b:ByteArray)(n m p q:Int)(w:World):(binOp .neq 128 (.agg #[.string a,.int .i64 n,.int .i64 m]) (.agg #[.string b,.int .i64 p,.int .i64 q])).run prog w = .ok (.bool (!(a.toList == b.toList&&(n == p&&m == q)))) w:=by
 have u3:=underlying3;have a3:=isAgg3;have z3:=sizeOf3;have u9:=underlying9;have a9:=isAgg9;have z9:=sizeOf9;have hS:prog.underlying 128=some (.struct (prog.fieldsOf 128)):=by kernel_rfl
 have hp:prog.stoodInHeld 128=false:=by kernel_rfl
 rw[run_neq_struct,show (10000:Nat)=9999+1 from rfl,run_equalIn_agg w 9999 128 _ _ hS hp];simp only[Program.fieldsOf,underlying128];go_simp;by_cases h0:a.toList=b.toList <;> by_cases h1:n=p <;> by_cases h2:m=q <;> simp[h0,h1,h2]
theorem Vw{d x:Np.Datum}{a b:ByteArray}(ha:a.data.toList=d.text)(hb:b.data.toList=x.text):(!(a.toList == b.toList&&(d.n == x.n&&d.m == x.m)))=decide (d≠x):=by
 rw[dQ,dQ,ha,hb,Bool.eq_iff_iff];simp only[Bool.not_eq_true',Bool.and_eq_false_iff,beq_eq_false_iff_ne,Qa];obtain⟨t,n,m⟩:=d;obtain⟨t2,n2,m2⟩:=x;simp only[ne_eq,Np.Datum.mk.injEq,not_and];constructor
 ·rintro (h | h | h) rfl rfl
  ·exact absurd rfl h
  ·exact absurd rfl h
  ·exact h
 ·intro h;by_cases h1:t=t2
  ·by_cases h2:n=n2
   ·exact .inr (.inr (h h1 h2))
   ·exact .inr (.inl h2)
  ·exact .inl h1
theorem Vn{α:Type}{xs ys:List α}{k:Nat}(h1:k<xs.length)(h2:k<ys.length)(h:xs.take k=ys.take k)(he:xs[k]=ys[k]):xs.take (k+1)=ys.take (k+1):=by
 rw[fQ h1,fQ h2,h,he]
theorem Vm{α:Type}{xs ys:List α}{k:Nat}(hl:xs.length=ys.length)(hk:¬ k<xs.length)(h:xs.take k=ys.take k):xs=ys:=by
 rwa [kQ (by omega),kQ (by omega)] at h
theorem arX(s1 s2:ByteArray)(t1 l1 t2 l2:Int)(v1 v2:Value)(d1 d2:List Np.Datum)(w:World)(eU:SlR cA 3 w w.heap.size v1 d1)(fS:SlR cA 3 w w.heap.size v2 d2) :
 Calls prog 63 #[.agg #[.string s1,.int .i64 t1,.int .i64 l1,v1],.agg #[.string s2,.int .i64 t2,.int .i64 l2,v2]] w
  λe w'=>e = .returned (.bool (decide (s1=s2/\t1=t2/\l1=l2/\d1=d2)))/\Below w.heap.size w w':=by
 obtain⟨r,hr⟩:=aJZ (decide (s1=s2/\t1=t2/\l1=l2/\d1=d2));rw[hr];have HR:=jq hr;have uz:=jq eU;have ci:=jq fS;obtain⟨A1,c1,rfl,be,bC⟩:=aj eU;obtain⟨A2,c2,rfl,dV,dJ⟩:=aj fS;have iO:Below w.heap.size w ((w.alloc (.cells #[.string s1,.int .i64 t1,.int .i64 l1,.slice A1 d1.length c1] 26)).alloc (.cells #[.string s2,.int .i64 t2,.int .i64 l2,.slice A2 d2.length c2] 26)):=((vQ _ _).alloc (bQ _) _).alloc (by simp) _;have bi:=jq iO;clear hr eU fS iO;have vV:∀ x y:Int,(x != y)=decide (x≠y):=λx y=>by by_cases h:x=y <;> simp[h]
 by_cases h1:s1=s2
 case neg=>
  have h1':¬ s1.toList=s2.toList:=λe=>h1 (mT (by rw[<-dQ,<-dQ];exact e));have HF:=jq (show r=false by rw[<-HR.out];simp[h1]);clear h1 vV;go_enter func63,ntmps63;go_wp2_with fail;go_ret;exact⟨ae HF.out.symm,bi.out⟩
 case pos=>
  subst h1;by_cases h2:t1=t2
  case neg=>
   have h2':(t1 != t2)=true:=by simpa using h2
   have HF:=jq (show r=false by rw[<-HR.out];simp[h2]);clear h2 vV;go_enter func63,ntmps63;go_wp2_with fail;go_ret;exact⟨ae HF.out.symm,bi.out⟩
  case pos=>
   subst h2;by_cases h3:l1=l2
   case neg=>
    have h3':(l1 != l2)=true:=by simpa using h3
    have HF:=jq (show r=false by rw[<-HR.out];simp[h3]);clear h3 vV;go_enter func63,ntmps63;go_wp2_with fail;go_ret;exact⟨ae HF.out.symm,bi.out⟩
   case pos=>
    subst h3;by_cases h4:d1.length=d2.length
    case neg=>
     have h4':((d1.length:Int) != (d2.length:Int))=true:=by rw[vV];simp;omega
     have HF:=jq (show r=false by rw[<-HR.out];simp;intro e;exact h4 (by rw[e]));clear h4 vV;go_enter func63,ntmps63;go_wp2_with fail;go_ret;exact⟨ae HF.out.symm,bi.out⟩
    case pos=>
     have h4':((d1.length:Int) != (d2.length:Int))=false:=by rw[vV];simp;omega
     have HL:=jq h4;clear h4 vV;go_enter func63,ntmps63;go_wp2_with fail;have an:((w.alloc (.cells #[.string s1,.int .i64 t1,.int .i64 l1,.slice A1 d1.length c1] 26)).alloc (.cells #[.string s1,.int .i64 t1,.int .i64 l1,.slice A2 d2.length c2] 26)).heap.size=w.heap.size+1+1:=by simp
     have q1:((w.alloc (.cells #[.string s1,.int .i64 t1,.int .i64 l1,.slice A1 d1.length c1] 26)).alloc (.cells #[.string s1,.int .i64 t1,.int .i64 l1,.slice A2 d2.length c2] 26)).cell? ⟨w.heap.size,3,none⟩=some (.slice A1 d1.length c1):=by simp[go_sem]
     have q2:((w.alloc (.cells #[.string s1,.int .i64 t1,.int .i64 l1,.slice A1 d1.length c1] 26)).alloc (.cells #[.string s1,.int .i64 t1,.int .i64 l1,.slice A2 d2.length c2] 26)).cell? ⟨w.heap.size+1,3,none⟩=some (.slice A2 d2.length c2):=by simp[go_sem]
     generalize sm:((w.alloc (.cells #[.string s1,.int .i64 t1,.int .i64 l1,.slice A1 d1.length c1] 26)).alloc (.cells #[.string s1,.int .i64 t1,.int .i64 l1,.slice A2 d2.length c2] 26))=wa at *;have HQ:=jq (And.intro q1 (And.intro q2 an));clear sm q1 q2 an;go_loopw [5] (λi wr=>∃ k:Nat,k<=d1.length/\i = .int .i64 k/\Hid (d1.take k=d2.take k)/\Hid (Below wa.heap.size wa wr)) (λi _=>d1.length - (intOf i).toNat)
     case atStart=>exact⟨0,jQ _,rfl,jq rfl,jq (vQ _ _)⟩
     case round=>
      obtain⟨k,hk,rfl,HN,HB⟩:=hrel;have aB:=bi.out.trans (HB.out.mono bi.out.size);have rZ:=HQ.out;have g1:=aIZ HB.out rZ.1;have g2:=aIZ HB.out rZ.2.1;clear rZ;by_cases aa:k<d1.length
      ·have lz:k<d2.length:=by have:=HL.out;omega
       obtain⟨b,o,c',s,hv,bB,_,bh,_,e0,e1,e2⟩:=G8 uz.out (aQ aa);simp only[Value.slice.injEq,true_and] at hv;obtain⟨rfl,rfl⟩:=hv;obtain⟨b',o',c'',s',hv,vD,_,cJ,_,f0,f1,f2⟩:=G8 ci.out (aQ lz);simp only[Value.slice.injEq,true_and] at hv;obtain⟨rfl,rfl⟩:=hv;have HT:=jq (Vn aa lz HN.out);have lK:=jq (show d1[k]≠d2[k]->r=false from λhne=>by rw[<-HR.out];simp;intro e;subst e;exact hne rfl);generalize d1[k]=x at *;generalize d2[k]=y at *;replace e0:=(aB.cell (p:=⟨b,o+k * 3,none⟩) bB).trans e0;replace e1:=(aB.cell (p:=⟨b,o+k * 3+1,none⟩) bB).trans e1;replace e2:=(aB.cell (p:=⟨b,o+k * 3+2,none⟩) bB).trans e2;replace f0:=(aB.cell (p:=⟨b',o'+k * 3,none⟩) vD).trans f0;replace f1:=(aB.cell (p:=⟨b',o'+k * 3+1,none⟩) vD).trans f1;replace f2:=(aB.cell (p:=⟨b',o'+k * 3+2,none⟩) vD).trans f2;have bF:(0:Int)<=(k:Int):=by omega
       have bL:(k:Int)<(d1.length:Int):=by omega
       have jj:(k:Int)<(d2.length:Int):=by omega
       have heq:=ZU s s' x.n x.m y.n y.m;rw[Vw bh cJ] at heq;clear aB bh cJ;by_cases hx:x=y
       ·have HX:=jq hx;have kS:decide (x≠y)=false:=by simpa using hx
        rw[kS] at heq;clear hx kS;go_wp2_with fail;go_quiet (fail);go_wp2_with fail;go_roundw
        case rel=>exact⟨k+1,by omega,by go_num,jq (HT.out HX.out),jq (below_drewN HB.out _)⟩
        case measure=>simp[intOf] <;> omega
       ·have HX:=jq hx;have kS:decide (x≠y)=true:=by simpa using hx
        rw[kS] at heq;clear hx kS;go_wp2_with fail;go_quiet (fail);go_wp2_with fail;go_ret;exact⟨ae (lK.out HX.out).symm,below_drewN (bi.out.trans (HB.out.mono bi.out.size)) _⟩
      ·go_wp2_with fail;go_ret;refine⟨ae ?_,bi.out.trans (HB.out.mono bi.out.size)⟩;rw[<-HR.out]
       have:=Vm HL.out aa HN.out
       simp[this]
structure BldT(T:TypeId):Prop where
 lies:liesAt prog prog.depth T (2 / prog.cellsOf T) 0 198 1=true
 ne:T≠5
def Bld(T:TypeId)(B b:Nat)(r:Option Nat)(l:List UInt8)(w:World):Prop:=
 ∃ p v,(p = .pointer none\/p = .pointer (some ⟨b,0,none⟩))/\B<=b/\w.heap[b]?=some (.cells #[p,v] T (0,0))/\w.ownsRow B 5 1 v l.length (Lib.byteCells l)/\v.ownBlock=r/\r≠some b/\(l = []->v = .slice none 0 0)
structure BS(b:Nat)(r:Option Nat)(w:World)(r':Option Nat)(w':World):Prop where
 os:w'.os=w.os
 tape:w'.tape=w.tape
 output:w'.output=w.output
 size:w.heap.size<=w'.heap.size
 keep:∀ k,k<w.heap.size->k≠b->r≠some k->w'.heap[k]?=w.heap[k]?
 at_:r'=r\/∃ k,w.heap.size<=k/\r'=some k
theorem BS.refl(b:Nat)(r:Option Nat)(w:World):BS b r w r w:=⟨rfl,rfl,rfl,bQ _,λ_ _ _ _=>rfl,.inl rfl⟩
theorem BS.trans{b:Nat}{r r' r'':Option Nat}{w w' w'':World}(h:BS b r w r' w')(k:BS b r' w' r'' w''):BS b r w r'' w'':=by
 refine⟨k.os.trans h.os,k.tape.trans h.tape,k.output.trans h.output,yQ h.size k.size,λi hi hb hr=>?_,?_⟩
 ·refine (k.keep i (lQ hi h.size) hb (λe=>?_)).trans (h.keep i hi hb hr);rcases h.at_ with e' | ⟨j,hj,e'⟩
  ·rw[e'] at e;exact hr e
  ·rw[e'] at e;simp at e;omega
 ·rcases k.at_ with e | ⟨j,hj,e⟩
  ·rcases h.at_ with e' | ⟨j,hj,e'⟩
   ·exact .inl (e.trans e')
   ·exact .inr ⟨j,hj,e.trans e'⟩
  ·exact .inr ⟨j,yQ h.size hj,e⟩
theorem BS.of_below{b:Nat}{r:Option Nat}{w w':World}(h:Below w.heap.size w w'):BS b r w r w':=⟨h.os,h.tape,h.output,h.size,λk hk _ _=>h.block k hk,.inl rfl⟩
theorem BS.after{b:Nat}{r r':Option Nat}{w w' w'':World}(h:BS b r w r' w')(k:Below w'.heap.size w' w''):BS b r w r' w'':=h.trans (BS.of_below k)
theorem BS.below{b:Nat}{r r':Option Nat}{w w':World}{n:Nat}(h:BS b r w r' w')(hb:n<=b)(hr:∀ k,r=some k->n<=k)(hn:n<=w.heap.size):Below n w w':=
 ⟨h.os,h.tape,h.output,h.size,λk hk=>h.keep k (by omega) (by omega) (λe=>by have:=hr k e;omega)⟩
theorem BS.cell{b:Nat}{r r':Option Nat}{w w':World}(h:BS b r w r' w'){k:Nat}(hk:k<w.heap.size)(hb:k≠b)(hr:r≠some k)(o:Nat):w'.cell? ⟨k,o,none⟩=w.cell? ⟨k,o,none⟩:=iQ (w:=w) (h.keep k hk hb hr)
theorem BS.free{b:Nat}{r r':Option Nat}{w w':World}(h:BS b r w r' w'){k:Nat}(hk:k<w.heap.size)(hr:r≠some k):r'≠some k:=λe=>by
 rcases h.at_ with e' | ⟨j,hj,e'⟩
 ·rw[e'] at e;exact hr e
 ·rw[e'] at e;simp at e;omega
theorem Bld.row{T:TypeId}{B b:Nat}{r:Option Nat}{l:List UInt8}{w:World}(h:Bld T B b r l w):B<=b/\b<w.heap.size/\∀ k,r=some k->B<=k/\k<w.heap.size:=by
 obtain⟨p,v,_,hB,hb,ho,rfl,_,_⟩:=h;exact⟨hB,(eQ.1 hb).1,λk hk=>ho.lt k hk⟩
theorem Bld.keep{T:TypeId}{B b:Nat}{r:Option Nat}{l:List UInt8}{w w':World}(h:Bld T B b r l w)(hb:Below w.heap.size w w'):Bld T B b r l w':=by
 have hrow:=h.row;obtain⟨p,v,hp,hB,hh,ho,rfl,hne,hn⟩:=h;refine⟨p,v,hp,hB,(hb.block b hrow.2.1).trans hh,cX ho (λg hg=>hb.block g (hrow.2.2 g hg).2),rfl,hne,hn⟩
theorem Bld.fresh(T:TypeId)(w:World):Bld T w.heap.size w.heap.size none [] (w.alloc (.cells #[.pointer none,.slice none 0 0] T)):=
 ⟨_,_,.inl rfl,bQ _,heap_alloc_new w _,World.ownsRow_nil _ _ _ _,rfl,by simp,λ_=>rfl⟩
theorem aaY{w:World}{base:Nat}{e T:TypeId}{v:Value}{n:Nat}{xs:List Value}{b:Nat}{cs:Array Value}{fr:Nat×Nat}(ho:w.ownsRow base e 1 v n xs)(hb:w.heap[b]?=some (.cells cs T fr))(hT:T≠e):v.ownBlock≠some b:=by
 intro h;rcases ho.2 with ⟨rfl,_⟩ | ⟨g,cap,cur,rfl,_,hg,_⟩
 ·cases h
 ·have:g=b:=Option.some.inj h
  subst this;rw[hb] at hg;simp only[Option.some.injEq,Obj.cells.injEq] at hg;exact hT hg.2.1
theorem UW:prog.cellsOf 5=1:=by kernel_rfl
theorem QZ:(prog.info? 198).map (·.size)=some 2:=by kernel_rfl
theorem Vl(b:Nat)(w:World)(h0:w.cell? ⟨b,0,none⟩=some (.pointer (some ⟨b,0,none⟩))) :
 Calls prog 210 #[.pointer (some ⟨b,0,none⟩)] w λe w'=>e = .returned (.tuple #[])/\w'=w:=by
 obtain⟨j,hj,_⟩:=Option.map_eq_some_iff.1 QZ;go_enter func210,ntmps210;go_wp2;rw[Lib.run_neq_ptr_same w _ underlying195 hj];go_wp2;go_end0;exact⟨rfl,rfl⟩
theorem Vk{T:TypeId}(hT:BldT T)(b:Nat)(w:World)(h0:w.cell? ⟨b,0,none⟩=some (.pointer none))(OV:w.shape? b=some (T,2))(vJ:w.frozen? ⟨b,0,none⟩=false) :
 Calls prog 210 #[.pointer (some ⟨b,0,none⟩)] w λe w'=>e = .returned (.tuple #[])/\w'=w.setCell ⟨b,0,none⟩ (.pointer (some ⟨b,0,none⟩)):=by
 obtain⟨j,hj,Bq⟩:=Option.map_eq_some_iff.1 QZ;go_enter func210,ntmps210;go_wp2;rw[Lib.run_to_unsafe w ⟨b,0,none⟩ underlying195 underlying325 hj (by rw[Bq];decide) OV (Nat.zero_lt_succ 1)];simp only[Result.andThen];rw[Oper.upon_value];go_wp2;rw[run_callFunc_extern func283 (by kernel_rfl) (by kernel_rfl) (by kernel_rfl) (e:=Extern.AbiNoEscape.same) (by kernel_rfl)];rw[Lib.run_noEscape];simp only[Result.andThen];rw[Oper.upon_value];go_wp2;rw[Lib.run_from_unsafe w ⟨b,0,none⟩ underlying325 underlying195 hj OV hT.lies];simp only[Result.andThen];rw[Oper.upon_value];go_wp2;go_end0;exact⟨rfl,rfl⟩
def Used(T:TypeId)(B b:Nat)(r:Option Nat)(l:List UInt8)(w:World):Prop:=
 ∃ v,B<=b/\w.heap[b]?=some (.cells #[.pointer (some ⟨b,0,none⟩),v] T (0,0))/\w.ownsRow B 5 1 v l.length (Lib.byteCells l)/\v.ownBlock=r/\r≠some b/\(l = []->v = .slice none 0 0)
theorem MJ{T:TypeId}(hT:BldT T)(B b:Nat)(r:Option Nat)(l:List UInt8)(w:World)(h:Bld T B b r l w) :
 Calls prog 210 #[.pointer (some ⟨b,0,none⟩)] w λe w'=>e = .returned (.tuple #[])/\Used T B b r l w'/\BS b r w r w':=by
 obtain⟨p,v,hp,hB,hb,ho,hr,hne,hn⟩:=h;have aa:=(eQ.1 hb).1;rcases hp with rfl | rfl
 ·refine (Vk hT b w (by rw[Lib.cell_of_heap hb];rfl) (by simp[World.shape?,hb]) (Lib.frozen_of_heap hb 0)).mono ?_;rintro e w' ⟨rfl,rfl⟩;refine⟨rfl,⟨v,hB,?_,?_,hr,hne,hn⟩,⟨rfl,rfl,rfl,by simp[World.setCell],λk _ hk _=>wQ _ _ _ _ hk,.inl rfl⟩⟩
  ·simp[World.setCell,Array.getElem?_modify,hb]
  ·exact cX ho (λg hg=>wQ _ _ _ _ (λe=>by rw[hr] at hg;exact hne (by rw[hg];simpa using e)))
 ·refine (Vl b w (by rw[Lib.cell_of_heap hb];rfl)).mono ?_;rintro e w' ⟨rfl,rfl⟩;exact⟨rfl,⟨v,hB,hb,ho,hr,hne,hn⟩,BS.refl _ _ _⟩
theorem Rr{T:TypeId}(hT:BldT T){B b:Nat}{r:Option Nat}{w1 w2:World}{v v':Value}{l':List UInt8}(hB:B<=b)(ac:w2.heap[b]?=some (.cells #[.pointer (some ⟨b,0,none⟩),v] T (0,0)))
 (ho:w2.ownsRow B 5 1 v' l'.length (Lib.byteCells l')) (al:w1.heap.size<=w2.heap.size) (rS:∀ k,k<w1.heap.size->k≠b->r≠some k->w2.heap[k]?=w1.heap[k]?) (tP:w2.os=w1.os/\w2.tape=w1.tape/\w2.output=w1.output)
 (hat:v'.ownBlock=r\/∃ k,w1.heap.size<=k/\v'.ownBlock=some k) (hn:l' = []->v' = .slice none 0 0) :
 Bld T B b v'.ownBlock l' (w2.setCell ⟨b,1,none⟩ v')/\BS b r w1 v'.ownBlock (w2.setCell ⟨b,1,none⟩ v'):=by
 have hne:=aaY ho ac hT.ne;refine⟨⟨_,v',.inr rfl,hB,?_,?_,rfl,hne,hn⟩,⟨tP.1,tP.2.1,tP.2.2,by simpa [World.setCell] using al,λk hk h1 h2=>(wQ _ _ _ _ h1).trans (rS k hk h1 h2),hat⟩⟩
 ·simp[World.setCell,Array.getElem?_modify,ac]
 ·exact cX ho (λg hg=>wQ _ _ _ _ (λe=>hne (by rw[hg];simpa using e)))
def CB(T:TypeId)(B b:Nat)(r:Option Nat)(l:List UInt8)(v:Value)(w:World)(e:Ending)(w':World):Prop:=e = .returned v/\∃ r',Bld T B b r' l w'/\BS b r w r' w'
theorem aFY{T:TypeId}(hT:BldT T)(B b:Nat)(r:Option Nat)(l:List UInt8)(c:UInt8)(w:World)(h:Bld T B b r l w)(hl:l.length<=100000000)(jf:B<=w.heap.size) :
 Calls prog 130 #[.pointer (some ⟨b,0,none⟩),.int .u8 c.toNat] w (CB T B b r (l ++ [c]) .nilIface w):=by
 obtain⟨i0,hi,di,ba,aN⟩:=info_parts Tryz.infoByte;have H:=jq h;clear h;go_enter func130,ntmps130;go_wp2_with fail;refine (MJ hT B b r l _ H.out).mono ?_;rintro e w1 ⟨rfl,⟨v,hB,rF,hown,hr,hne,_⟩,bh⟩;have c1:w1.cell? ⟨b,1,none⟩=some v:=by rw[Lib.cell_of_heap rF];rfl
 have aa:b<w1.heap.size:=(eQ.1 rF).1;have HO:=jq hown;have y7:=jq rF;have HR:=jq hr;have dS:=jq bh;have wb:=bh.size;clear hown rF hr bh;go_wp2_with (at_builtin;refine wpList_append_own_at _ rfl _ _ 196 rfl B 5 i0 (.int .u8 0) 1 1 underlying196 hi di ba aN rfl (by decide) _ _ _ rfl (HO.out.alloc _) ⟨w1.heap.size,0,none⟩ 1 1 [.int .u8 c.toNat] rfl rfl (cell_one_new _ _ _) (by simp[Value.oneCell']) (by unfold maxLen;omega) (by omega) (by simp;omega) ?_;intro v' w2 kM oJ Ec hat;have H2:=jq (And.intro kM (And.intro oJ hat));clear kM oJ hat Ec;have ac:w2.heap[b]?=some (.cells #[.pointer (some ⟨b,0,none⟩),v] T (0,0)):=(by rw[H2.out.2.1.block b (by simp;omega) (λe=>hne (HR.out.symm.trans e.symm)),Lib.alloc_old w1 _ b aa];exact y7.out);have d1:w2.cell? ⟨b,1,none⟩=some v:=(by rw[Lib.cell_of_heap ac];rfl);have f1:w2.frozen? ⟨b,1,none⟩=false:=Lib.frozen_of_heap ac 1;have ah:=jq ac;clear ac;obtain⟨ao,cap,rfl⟩:=sF H2.out.1);go_ret;obtain⟨o2,g2,a2⟩:=H2.out;have tz:=Rr hT (r:=r) (w1:=w1) (l':=l ++ [c]) hB ah.out (by simpa [Lib.byteCells] using o2) (by have:=g2.size;simp at this;omega) (λk hk h1 h2=>by rw[g2.block k (by simp;omega) (λe=>h2 (HR.out.symm.trans e.symm)),Lib.alloc_old w1 _ k hk]) ⟨g2.os,g2.tape,g2.output⟩ (by
  rcases a2 with a2 | a2
  ·exact .inl (a2.trans HR.out)
  ·exact .inr ⟨_,by simp,a2⟩) (by simp)
 exact⟨rfl,_,tz.1,dS.out.trans tz.2⟩
theorem RI{T:TypeId}(hT:BldT T)(B b:Nat)(r:Option Nat)(l:List UInt8)(s:ByteArray)(w:World)(h:Bld T B b r l w)(hl:l.length<=100000000)(hs:s.size<=100000000)(jf:B<=w.heap.size) :
 Calls prog 129 #[.pointer (some ⟨b,0,none⟩),.string s] w (CB T B b r (l++s.data.toList) (.tuple #[.int .i64 s.size,.nilIface]) w):=by
 obtain⟨i0,hi,di,ba,aN⟩:=info_parts Tryz.infoByte;have H:=jq h;clear h;go_enter func129,ntmps129;go_wp2_with fail;refine (MJ hT B b r l _ H.out).mono ?_;rintro e w1 ⟨rfl,⟨v,hB,rF,hown,hr,hne,Ec⟩,bh⟩;have c1:w1.cell? ⟨b,1,none⟩=some v:=by rw[Lib.cell_of_heap rF];rfl
 have aa:b<w1.heap.size:=(eQ.1 rF).1;have HO:=jq hown;have y7:=jq rF;have HR:=jq hr;have dS:=jq bh;have HN:=jq Ec;have wb:=bh.size;clear hown rF hr bh Ec;go_wp2_with (at_builtin;refine aEK _ rfl _ _ 196 9 rfl B 5 i0 underlying196 underlying9 hi di ba aN _ _ _ rfl HO.out s rfl (by unfold maxLen;omega) (by omega) (by omega) ?_;intro v' w2 kM oJ hat qB;have H2:=jq (And.intro kM (And.intro oJ hat));have eR:=jq qB;clear kM oJ hat qB;have ac:w2.heap[b]?=some (.cells #[.pointer (some ⟨b,0,none⟩),v] T (0,0)):=(by rw[H2.out.2.1.block b aa (λe=>hne (HR.out.symm.trans e.symm))];exact y7.out);have d1:w2.cell? ⟨b,1,none⟩=some v:=(by rw[Lib.cell_of_heap ac];rfl);have f1:w2.frozen? ⟨b,1,none⟩=false:=Lib.frozen_of_heap ac 1;have ah:=jq ac;clear ac;obtain⟨ao,cap,rfl⟩:=sF H2.out.1);go_ret2;obtain⟨o2,g2,a2⟩:=H2.out;have tz:=Rr hT (r:=r) (w1:=w1) (l':=l++s.data.toList) hB ah.out (by simpa [Lib.byteCells,Lib.strCells] using o2) g2.size (λk hk h1 h2=>g2.block k hk (λe=>h2 (HR.out.symm.trans e.symm))) ⟨g2.os,g2.tape,g2.output⟩ (by
  rcases a2 with a2 | a2
  ·exact .inl (a2.trans HR.out)
  ·exact .inr ⟨_,bQ _,a2⟩) (by
  intro h0;have h1:=List.append_eq_nil_iff.1 h0;exact eR.out.2 ⟨HN.out h1.1,by rw[<-bk,h1.2];rfl⟩)
 exact⟨rfl,_,tz.1,dS.out.trans tz.2⟩
def ur(T:TypeId)(B b:Nat)(l:List UInt8)(w:World):Prop:=
 ∃ p v,B<=b/\w.heap[b]?=some (.cells #[p,v] T (0,0))/\((v = .slice none 0 0/\l = [])\/∃ g cap cur fr,v = .slice (some ⟨g,0,none⟩) l.length cap/\l≠[]/\B<=g/\g≠b/\w.heap[g]?=some (.cells cur 5 fr)/\l.length<=cur.size/\l.length<=cap/\l.length<=9223372036854775807/\cur.toList.take l.length=Lib.byteCells l)
theorem Bld.read{T:TypeId}{B b:Nat}{r:Option Nat}{l:List UInt8}{w:World}(h:Bld T B b r l w):ur T B b l w:=by
 obtain⟨p,v,_,hB,hb,ho,hr,hne,hn⟩:=h;refine⟨p,v,hB,hb,?_⟩;by_cases h0:l = []
 ·exact .inl ⟨hn h0,h0⟩
 ·right;rcases ho.2 with ⟨_,h1⟩ | ⟨g,cap,cur,rfl,eT,hg,lA,gj,hcs,ht⟩
  ·exact absurd (rQ h1) h0
  ·refine⟨g,cap,cur,_,rfl,h0,eT,λe=>hne ?_,hg,by omega,lA,by unfold maxLen at gj;omega,by simpa using ht⟩;rw[<-hr,e];rfl
theorem ur.keep{T:TypeId}{B b:Nat}{l:List UInt8}{w w':World}(h:ur T B b l w)(hb:Below w.heap.size w w'):ur T B b l w':=by
 obtain⟨p,v,hB,hh,hv⟩:=h;refine⟨p,v,hB,(hb.block b (eQ.1 hh).1).trans hh,?_⟩;rcases hv with hv | ⟨g,cap,cur,fr,h1,h2,h3,h4,h5,h6⟩
 ·exact .inl hv
 ·exact .inr ⟨g,cap,cur,fr,h1,h2,h3,h4,(hb.block g (eQ.1 h5).1).trans h5,h6⟩
theorem V8{w:World}{g n k:Nat}(h:k≠g):(w.freeze ⟨g,0,none⟩ n).heap[k]?=w.heap[k]?:=by
 unfold World.freeze;split
 ·rfl
 ·simp only[Array.getElem?_modify];rw[Qc (Ne.symm h)]
theorem V7{w:World}{g n:Nat}{cur:Array Value}{t:TypeId}{fr:Nat×Nat}(h:w.heap[g]?=some (.cells cur t fr)):∃ fr',(w.freeze ⟨g,0,none⟩ n).heap[g]?=some (.cells cur t fr'):=by
 unfold World.freeze;split
 ·exact⟨fr,h⟩
 ·simp only[Array.getElem?_modify,if_true,h];obtain⟨lo,hi⟩:=fr;exact⟨_,rfl⟩
theorem avX{T:TypeId}(B b:Nat)(l:List UInt8)(w:World)(h:ur T B b l w) :
 Calls prog 134 #[.pointer (some ⟨b,0,none⟩)] w λe w'=>e = .returned (aC l)/\ur T B b l w'/\Below B w w':=by
 obtain⟨p,v,hB,hb,hv⟩:=h;rcases hv with ⟨rfl,rfl⟩ | ⟨g,cap,cur,fr,rfl,h0,Hs,dO,hg,Ot,WU,kE,ht⟩
 ·have c1:w.drew.cell? ⟨b,1,none⟩=some (.slice none 0 0):=by
   have:w.drew.heap[b]?=some (.cells #[p,.slice none 0 0] T (0,0)):=hb
   rw[Lib.cell_of_heap this];rfl
  have WD:∀ W q,(Builtin.unsafeString_ #[271,3] 9 #[.pointer q,.int .i64 0]).run prog W = .ok (.string .empty) W:=λW q=>Lib.run_unsafeString_none W _ _ _ q;have ft:(Builtin.unsafeSliceData_ #[196] 271 #[.slice none 0 0]).run prog w.drew = .ok (.pointer none) w.drew:=rfl;have HB:=jq hb;clear hb;go_enter func134,ntmps134;go_wp2;go_region
  all_goals (go_wp2;go_ret;exact⟨rfl,⟨p,_,hB,HB.out,.inl ⟨rfl,rfl⟩⟩,(vQ _ _).drew⟩)
 ·have c1:w.drew.cell? ⟨b,1,none⟩=some (.slice (some ⟨g,0,none⟩) l.length cap):=by
   have:w.drew.heap[b]?=some (.cells #[p,.slice (some ⟨g,0,none⟩) l.length cap] T (0,0)):=hb
   rw[Lib.cell_of_heap this];rfl
  have tF:l.length≠0:=by simpa using h0
  have ft:(Builtin.unsafeSliceData_ #[196] 271 #[.slice (some ⟨g,0,none⟩) l.length cap]).run prog w.drew = .ok (.pointer (some ⟨g,0,none⟩)) w.drew:=
   Lib.run_unsafeSliceData_row _ _ _ _ _ _ (by omega)
  have hg':w.drew.heap[g]?=some (.cells cur 5 fr):=hg;have WD:(Builtin.unsafeString_ #[271,3] 9 #[.pointer (some ⟨g,0,none⟩),.int .i64 l.length]).run prog w.drew = .ok (.string ⟨l.toArray⟩) (w.drew.freeze ⟨g,0,none⟩ l.length):=by
   refine Lib.run_unsafeString_row w.drew 271 3 9 5 underlying271 UW g cur.size (by simp[World.shape?,hg']) l h0 Ot kE ?_;intro j x hx;have mE:(⟨g,0,none⟩:Addr).add j=⟨g,j,none⟩:=by unfold Addr.add;split <;> simp_all
   rw[mE,Lib.cell_of_heap hg'];have h1:(Lib.byteCells l)[j]?=some (.int .u8 x.toNat):=by simp[Lib.byteCells,hx]
   rw[<-ht,List.getElem?_take] at h1;split at h1
   ·simpa using h1
   ·cases h1
  have HF:Hid (ur T B b l (w.drew.freeze ⟨g,0,none⟩ l.length)/\Below B w (w.drew.freeze ⟨g,0,none⟩ l.length)):=by
   obtain⟨fr',ew⟩:=V7 (n:=l.length) hg';exact jq ⟨⟨p,_,hB,(V8 (Ne.symm dO)).trans hb,.inr ⟨g,cap,cur,fr',rfl,h0,Hs,dO,ew,Ot,WU,kE,ht⟩⟩,Lib.below_freeze (Below.drew (vQ B w)) (p:=⟨g,0,none⟩) Hs _⟩
  clear hb hg hg' ht;go_enter func134,ntmps134;go_wp2;go_region
  all_goals (go_wp2;go_ret;exact⟨rfl,HF.out⟩)
def GU(b:Nat)(r:Option Nat)(w:World)(v:Value)(ws:List (List UInt8)):Prop:=
 ∃ A c,v = .slice A ws.length c/\ws.length<=c/\ws.length<=1000000/\∀ i x,ws[i]?=some x->∃ g o,A=some ⟨g,o,none⟩/\g<w.heap.size/\g≠b/\r≠some g/\w.cell? ⟨g,o+i,none⟩=some (aC x)
theorem GU.step{b:Nat}{r r':Option Nat}{w w':World}{v:Value}{ws:List (List UInt8)}(h:GU b r w v ws)(hs:BS b r w r' w'):GU b r' w' v ws:=by
 obtain⟨A,c,h1,h2,h3,h4⟩:=h;refine⟨A,c,h1,h2,h3,λi x hx=>?_⟩;obtain⟨g,o,h5,h6,h7,h8,h9⟩:=h4 i x hx;exact⟨g,o,h5,lQ h6 hs.size,h7,hs.free h6 h8,(hs.cell h6 h7 h8 _).trans h9⟩
theorem RH{T:TypeId}(hT:BldT T)(B b:Nat)(r:Option Nat)(l:List UInt8)(c:UInt8)(k:Int)(hk:(c.toNat:Int)=k)(w:World)(h:Bld T B b r l w)(hl:l.length<=100000000)(jf:B<=w.heap.size) :
 Calls prog 130 #[.pointer (some ⟨b,0,none⟩),.int .u8 k] w (CB T B b r (l ++ [c]) .nilIface w):=by
 subst hk;exact aFY hT B b r l c w h hl jf
def iL(w:World):Prop:=Lib.TabIs prog w "internal/strconv.uint64pow10" .u64 Lib.pow10Tab
theorem Hi:prog.globalNamed "internal/strconv.uint64pow10" = some 1:=by kernel_rfl
theorem iL.lt{w:World}(h:iL w):1<w.heap.size:=by
 unfold iL Lib.TabIs World.var? at h;rw[Hi] at h;simp only[Option.bind_some] at h
 cases hh:w.heap[1]? with
 | none=>rw[hh] at h;cases h
 | some o=>exact (eQ.1 hh).1
theorem iL.keepAt{w w':World}{n:Nat}(h:iL w)(hb:Below n w w')(hn:1<n):iL w':=by
 unfold iL Lib.TabIs World.var? at h |-;rw[Hi] at h |-;simp only[Option.bind_some] at h |-;rw[hb.block _ hn];exact h
theorem iL.keep{w w':World}(h:iL w)(hb:Below w.heap.size w w'):iL w':=h.keepAt hb h.lt
theorem MS:∀ n:Nat,Lib.decDigits n=Np.nk n:=by
 intro n
 induction n using Nat.strongRecOn with
 | ind n ih=>
  rw[Lib.decDigits,Np.nk];split
  ·rfl
  ·rw[ih (n / 10) (by omega)]
theorem Y2(n:Int)(h0:0<=n)(h1:n<=9223372036854775807)(w:World)(hP:iL w) :
 Calls prog 132 #[.int .i64 n] w (aOJ w.heap.size w (aC (Np.cT n))):=
 (Tryz.strconv_Itoa n (by omega) (by omega) w hP).mono λe w' ⟨he,k,os,hw⟩=>by
   refine⟨?_,?_⟩
   ·rw[he,Lib.itoa,Qc (by omega),MS];rfl
   ·rw[hw];exact Lib.below_grow _ w (bQ _) k os
theorem V0(n:Int)(h0:0<=n)(h1:n<18446744073709551616)(w:World)(hP:iL w) :
 Calls prog 133 #[.int .u64 n,.int .i64 10] w (aOJ w.heap.size w (aC (Np.cT n))):=by
 obtain⟨u,rfl⟩:∃ u:Nat,n=u:=⟨n.toNat,by omega⟩;refine (V4 u (by omega) w hP).mono λe w' ⟨he,k,os,hw⟩=>⟨?_,?_⟩
 ·rw[he,MS];rfl
 ·rw[hw];exact Lib.below_grow _ w (bQ _) k os
theorem Ai{n:Int}(h1:n<18446744073709551616):(Np.cT n).length<=20:=Np.Vz 19 n.toNat (by omega)
theorem VC(a b:List (List UInt8)):Np.gP (a++b)=Np.gP a++Np.gP b:=by simp[Np.gP]
theorem JR:∀ (ns:List Int) (s:List UInt8),s++(ns.flatMap λn=>47::Np.cT n) ++ [47]=Np.gP (s::ns.map Np.cT)
 | [],s=>by simp[Np.gP]
 | n::ns,s=>by
   rw[Np.Aj,List.map_cons,<-JR ns (Np.cT n)];simp
theorem Qn:∀ (ns:List Int) (s:List UInt8),(∀ n∈ns,n<18446744073709551616)->(s++(ns.flatMap λn=>47::Np.cT n) ++ [47]).length<=s.length+1+21 * ns.length
 | [],s,_=>by simp
 | n::ns,s,h=>by
   have:=Qn ns s (λm hm=>h m (mQ _ hm))
   have h2:=Ai (h n (by simp));simp at this |-;omega
theorem Dh:BldT 198:=⟨by kernel_rfl,by decide⟩
def ll(b:Nat)(r:Option Nat)(w:World)(v:Value)(ns:List Int):Prop:=
 ∃ A c,v = .slice A ns.length c/\ns.length<=c/\∀ i x,ns[i]?=some x->∃ g o,A=some ⟨g,o,none⟩/\g<w.heap.size/\g≠b/\r≠some g/\w.cell? ⟨g,o+i,none⟩=some (.int .i64 x)
theorem ll.step{b:Nat}{r r':Option Nat}{w w':World}{v:Value}{ns:List Int}(h:ll b r w v ns)(hs:BS b r w r' w'):ll b r' w' v ns:=by
 obtain⟨A,c,h1,h2,h4⟩:=h;refine⟨A,c,h1,h2,λi x hx=>?_⟩;obtain⟨g,o,h5,h6,h7,h8,h9⟩:=h4 i x hx;exact⟨g,o,h5,lQ h6 hs.size,h7,hs.free h6 h8,(hs.cell h6 h7 h8 _).trans h9⟩
theorem ll.nil(b:Nat)(r:Option Nat)(w:World):ll b r w (.slice none 0 0) []:=⟨none,0,rfl,bQ _,λi x h=>by simp at h⟩
def qM(ns:List Int):List UInt8:=ns.flatMap λn=>47::Np.cT n
theorem Z8{ns:List Int}{k:Nat}{x:Int}(hx:ns[k]?=some x):qM (ns.take (k+1))=qM (ns.take k) ++ [47]++Np.cT x:=by
 obtain⟨hl,he⟩:=cQ.1 hx;rw[fQ hl,he];simp[qM]
theorem PW:∀ (ns:List Int),(∀ n∈ns,n<18446744073709551616)->(qM ns).length<=21 * ns.length
 | [],_=>by simp[qM]
 | n::ns,h=>by
   have:=PW ns (λm hm=>h m (mQ _ hm))
   have h2:=Ai (h n (by simp));simp[qM] at this |-;omega
theorem EO(B b:Nat)(r:Option Nat)(l:List UInt8)(s:ByteArray)(v:Value)(ns:List Int)(w:World)(h:Bld 198 B b r l w)(hv:ll b r w v ns)(hn:∀ n∈ns,0<=n/\n<=9223372036854775807)(hl:l.length<=10000000)(hs:s.size<=100000)(qB:ns.length<=100)(jf:B<=w.heap.size)(hP:iL w)(WC:1<B) :
 Calls prog 217 #[.string s,v,.pointer (some ⟨b,0,none⟩)] w (CB 198 B b r (l++Np.gP (s.data.toList::ns.map Np.cT)) (.tuple #[]) w):=by
 have H:=jq h;have HV:=jq hv;have HP:=jq hP;have HN:=jq hn;have jP:=jq h.row.1;have kw:=jq h.row.2.2;obtain⟨A,c,rfl,hc,-⟩:=hv;obtain⟨m,hm⟩:=aJZ ns.length;rw[hm] at qB;have HM:=jq hm;have Gj:Hid (∀ k,(qM (ns.take k)).length<=2100):=jq (λk=>by
  have h1:=PW (ns.take k) (λn hn'=>by have:=HN.out n (List.mem_of_mem_take hn');omega);rw[List.length_take] at h1;have h2:=HM.out;omega)
 have dy:s.data.toList.length=s.size:=bk s;have sW:=jq dy;clear h hn hP dy;rw[hm] at HV |-;clear hm hc;go_enter func217,ntmps217;go_wp2_with fail;refine (RI Dh B b r _ s _ H.out (by omega) (by omega) jf).mono ?_;rintro e w1 ⟨rfl,r1,aq,bh⟩;have am:=jq aq;have dS:=jq bh;have wb:=bh.size;clear aq bh;go_wp2_with fail;go_loopw [11] (λi wr=>∃ (k:Nat) (r':Option Nat),k<=m/\i = .int .i64 k/\Hid (Bld 198 B b r' (l++s.data.toList++qM (ns.take k)) wr)/\Hid (BS b r w r' wr)/\Hid (ll b r' wr (.slice A m c) ns)) (λi _=>m - (intOf i).toNat)
 case atStart=>exact⟨0,r1,jQ _,rfl,jq (by simpa [qM] using am.out),dS,jq (HV.out.step dS.out)⟩
 case round=>
  obtain⟨k,r',hk,rfl,HB,HS,HX⟩:=hrel;have al:=HS.out.size;have eK:Hid (Below B w wr):=jq (HS.out.below jP.out (λk hk=>(kw.out k hk).1) jf);by_cases aa:k<m
  ·obtain⟨x,ab⟩:∃ x,ns[k]?=some x:=⟨_,aQ (by rw[HM.out];exact aa)⟩;obtain⟨A',c',hA,_,aY⟩:=HX.out;simp only[Value.slice.injEq] at hA;obtain⟨rfl,-,rfl⟩:=hA;obtain⟨g,o,rfl,hg,dO,Bk,hcell⟩:=aY k _ ab;have HJ:=jq (Z8 ab);have iD:=HN.out x (gQ ab);have GO:=jq iD;have XU:=Gj.out k;have aVK:=Gj.out (k+1);clear aY ab iD;go_wp2_with fail;refine (RH Dh B b r' _ 47 47 rfl _ HB.out (by simp;omega) (by omega)).mono ?_;rintro e w2 ⟨rfl,r2,ac,cJ⟩;have ah:=jq ac;have g8:=jq cJ;have lZ:=cJ.size;clear ac cJ;go_wp2_with fail;refine (Y2 x GO.out.1 GO.out.2 w2 (HP.out.keepAt (eK.out.trans (g8.out.below jP.out (λk hk=>(HB.out.row.2.2 k hk).1) (by omega))) WC)).mono ?_;rintro e w3 ⟨rfl,ak⟩;have aA:=jq (ah.out.keep ak);have mr:=jq (g8.out.after ak);have lC:=ak.size;clear ak;go_wp2_with fail;refine (RI Dh B b r2 _ ⟨(Np.cT x).toArray⟩ _ aA.out (by simp;omega) (by rw[<-bk];have:=Ai (n:=x) (by have:=GO.out;omega);simp;omega) (by omega)).mono ?_;rintro e w4 ⟨rfl,r4,ar,I8⟩;have b7:=jq ar;have rp:=jq (mr.out.trans I8);clear ar I8;go_wp2_with fail;go_roundw
   case rel=>exact⟨k+1,r4,by omega,by go_num,jq (by have:=b7.out;rw[HJ.out];simpa using this),jq (HS.out.trans rp.out),jq (HX.out.step rp.out)⟩
   case measure=>simp[intOf] <;> omega
  ·have XU:=Gj.out k;have jS:Hid (ns.take k=ns):=jq (kQ (by rw[HM.out];omega));go_wp2_with fail;refine (RH Dh B b r' _ 47 47 rfl _ HB.out (by simp;omega) (by omega)).mono ?_;rintro e w2 ⟨rfl,r2,ac,cJ⟩;have ah:=jq ac;have g8:=jq (HS.out.trans cJ);clear ac cJ;go_wp2_with fail;go_end0;refine⟨rfl,r2,?_,g8.out⟩
   have:=ah.out
   rw[jS.out] at this;rw[<-JR];simpa [qM] using this
end
end Go.Proofs.YtfnopgdcaanaiaaGreatDoor
