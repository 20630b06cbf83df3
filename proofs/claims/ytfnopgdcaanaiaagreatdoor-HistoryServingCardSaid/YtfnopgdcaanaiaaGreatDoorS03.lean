/- No condition. -/
import Derived.WideMake
import Derived.Test.YtfnopgdcaanaiaaGreatDoorS01
set_option linter.all false
set_option maxRecDepth 100000
set_option maxHeartbeats 8000000
namespace Go.Proofs.YtfnopgdcaanaiaaGreatDoor
open Go.Proofs.Tryz
section
open Go.RowKit
theorem bhQ(l:List UInt8):Np.bl (l ++ [46])=Np.bl l ++ [[]]:=Np.xC l []
theorem bhZ:∀ (l:List UInt8) (c:UInt8) (pre:List (List UInt8)) (x:List UInt8),c≠46->Np.bl l=pre ++ [x]->Np.bl (l ++ [c])=pre ++ [x ++ [c]]:=by
 intro l
 induction l with
 | nil=>
  intro c pre x hc h;have h2:([[]]:List (List UInt8))=pre ++ [x]:=h
  cases pre with
  | nil=>simp at h2;subst h2;simp[Np.bl,hc]
  | cons a pre=>simp at h2
 | cons a r ih=>
  intro c pre x hc h;rw[List.cons_append];rw[Np.bl] at h |-;by_cases ha:a=46
  ·rw[Qb ha] at h |-
   cases pre with
   | nil=>simp at h;exact absurd h.2 (Np.qf r)
   | cons b pre=>
    simp only[List.cons_append,List.cons.injEq] at h;rw[ih c pre x hc h.2,<-h.1];rfl
  ·rw[Qc ha] at h |-;have hne:=Np.qf r
   cases hr:Np.bl r with
   | nil=>exact absurd hr hne
   | cons y ys=>
    rw[hr] at h;simp only at h
    cases pre with
    | nil=>
     simp only[List.nil_append,List.cons.injEq] at h;obtain⟨rfl,rfl⟩:=h;rw[ih c [] y hc (by rw[hr];rfl)];rfl
    | cons b pre=>
     simp only[List.cons_append,List.cons.injEq] at h;obtain⟨rfl,rfl⟩:=h;rw[ih c (y::pre) x hc (by rw[hr];rfl)];rfl
def RSt(_:World)(_:Nat)(e:List Value)(x:List UInt8):Prop:=e = [aI x]
theorem F8:dl RSt:=λ_ _ _ _ _ h _=>h
theorem Ty:dy RSt:=λ_ _ _ _ _ h _=>h
def xK{α:Type}(R:aiQ α)(sz:Nat)(w:World)(xs:List α)(e:Ending)(w':World):Prop:=∃ v,e = .returned v/\SlR R sz w' w'.heap.size v xs/\Below w.heap.size w w'
theorem aWJ{W:World}{base:Nat}{e:TypeId}{g cap n:Nat}{xs:List Value}(h:W.ownsRow base e 1 (.slice (some ⟨g,0,none⟩) n cap) n xs)(j:Nat)(hj:j<n)(u:Value) :
 W.cell? ⟨g,j,none⟩=xs[j]?/\W.frozen? ⟨g,j,none⟩=false/\g<W.heap.size/\base<=g/\(W.setCell ⟨g,j,none⟩ u).ownsRow base e 1 (.slice (some ⟨g,0,none⟩) n cap) n (xs.set j u):=by
 obtain⟨h1,h2⟩:=h;rcases h2 with ⟨h2,_⟩ | ⟨g',cap',cur,h2,hb,hg,hn,hm,hs,ht⟩
 ·cases h2
 ·simp only[Value.slice.injEq,Option.some.injEq,Addr.mk.injEq,and_true,true_and] at h2;obtain⟨rfl,rfl⟩:=h2;have ab:=(eQ.1 hg).1;refine⟨?_,?_,ab,hb,by simpa using h1,.inr ⟨g,cap,cur.setIfInBounds j u,rfl,hb,?_,hn,hm,by simpa using hs,?_⟩⟩
  ·rw[<-ht];simp only[World.cell?,hg,Option.isSome_none,Bool.false_eq_true,if_false,List.getElem?_take];rw[Qb (by omega)];simp
  ·simp[World.frozen?,hg]
  ·simp only[World.setCell,Array.getElem?_modify,if_true,hg];simp
  ·rw[<-ht,Array.toList_setIfInBounds,List.take_set]
theorem Tryz.infoStr:(prog.info? 9).map (λi=>(i.zero,i.size,i.bytes))=some (some (.string ⟨#[]⟩),1,16):=by kernel_rfl
def X4(s:ByteArray)(w:World)(v i:Value)(wr:World):Prop:=
 ∃ (k:Nat) (pre:List (List UInt8)) (x:List UInt8),k<=s.size/\i = .int .i64 k/\Np.bl (s.data.toList.take k)=pre ++ [x]/\pre.length<=k/\wr.ownsRow w.heap.size 9 1 v (pre.length+1) (pre.map aI ++ [aI x])/\Below w.heap.size w wr
theorem bjQ(x:List UInt8)(s:ByteArray)(k:Nat)(hk:k<s.size):Value.string ((⟨x.toArray⟩:ByteArray)++s.extract k (k+1))=aI (x ++ [s[k]]):=by
 show Value.string _=Value.string _;congr 1;apply iC
 have:(s.extract k (k+1)).data.toList = [s[k]]:=by
  rw[I4,Lz s k hk,List.drop_append_of_le_length (by rw[List.length_take,bj];omega),List.drop_of_length_le (by rw[List.length_take,bj];omega),List.nil_append]
 rw[ByteArray.data_append,Array.toList_append,this]
theorem To(s:ByteArray)(hs:s.size<=1000000)(w:World):Calls prog 103 #[.string s] w (xK RSt 1 w (Np.bl s.data.toList)):=by
 obtain⟨i0,hi,dP,bF,aO⟩:=info_parts Tryz.infoStr;go_enter func103,ntmps103;go_wp2;go_loopw [3,4] (λv i wr=>X4 s w v i wr) (λ_ i _=>s.size - (intOf i).toNat)
 case atStart=>
  refine⟨0,[],[],jQ _,rfl,rfl,bQ _,⟨rfl,.inr ⟨w.heap.size,1,#[.string ⟨#[]⟩],rfl,bQ _,heap_alloc_new _ _,by simp,by simp[maxLen],rfl,rfl⟩⟩,blAl⟩
 case round=>
  obtain⟨k,pre,x,hk,rfl,Ro,dY,hown,hB⟩:=hrel;obtain⟨g,cap,rfl⟩:=ownsRow_succ hown;have ay:=hB.size;have HB:=jq hB;have HO:=jq hown;have HS:=jq Ro;clear hB hown Ro;by_cases ab:k<s.size
  ·have hb:=zL s[k];have RA:=Lz s k ab;have HT:=jq RA;clear RA;by_cases Bv:(s[k].toNat:Int)=46
   ·have he:((s[k].toNat:Int) == 46)=true:=by simp[Bv]
    have hc:s[k]=46:=by
     apply UInt8.toNat_inj.1
     have:s[k].toNat=46:=by omega
     rw[this];rfl
    have HC:=jq hc;clear hc Bv;go_wp2_with (at_builtin;refine wpList_append_own_at _ rfl _ _ 116 rfl w.heap.size 9 i0 (.string ⟨#[]⟩) 1 16 underlying116 hi dP bF aO rfl (by decide) _ _ _ rfl (HO.out.alloc _) ⟨wr.heap.size,0,none⟩ 1 1 [.string ⟨#[]⟩] rfl rfl (cell_one_new _ _ _) (by simp[Value.oneCell']) (by unfold maxLen;omega) (by omega) (by simp;omega) ?_;intro v1 w1 Cq yS _ akQ;have H1:=jq (And.intro Cq yS);clear Cq yS akQ);go_roundw
    case rel=>
     obtain⟨o1,g1⟩:=H1.out;have E4:=(HO.out.lt g rfl).1;refine⟨k+1,pre ++ [x],[],by omega,by go_num,?_,by simp;omega,?_,?_⟩
     ·rw[HT.out,HC.out,bhQ,HS.out]
     ·simpa using o1
     ·exact (HB.out.alloc (by omega) _).grown g1 (by simp;omega) (λj hj=>by have e:g=j:=Option.some.inj hj;omega)
    case measure=>simp[intOf]<;>omega
   ·have he:((s[k].toNat:Int) == 46)=false:=by simp[Bv]
    have hc:s[k]≠46:=λe=>Bv (by rw[e];rfl);have HC:=jq hc;clear hc Bv;obtain⟨q1,q2,q3,q4,q5⟩:=aWJ HO.out pre.length (by omega) (aI (x ++ [s[k]]));have hcell:wr.cell? ⟨g,pre.length,none⟩=some (aI x):=by rw[q1];simp
    have Ih:=jq q5;have mw:=bjQ x s k ab;clear q1 q5;have ur:x.length<=k:=by
     have h1:=Np.Ls (l:=s.data.toList.take k) (y:=x) (by rw[HS.out];simp);rw[List.length_take] at h1;omega
    have fG:¬ 9223372036854775807<x.length+(min (k+1) s.size - k):=by omega
    have am:IntKind.i64.wrap (pre.length:Int)=pre.length:=IntWalk.i64_in _ (by omega);have aj:IntKind.i64.wrap ((k:Int)+1)=k+1:=IntWalk.i64_in _ (by omega);have sB:(0:Int)<=(pre.length:Int):=by omega
    have hp1:(pre.length:Int)<(pre.length:Int)+1:=by omega
    have cj:(0:Int)<=(k:Int):=by omega
    have ck:(k:Int)+1<=(s.size:Int):=by omega
    have lk:((k:Int)+1).toNat=k+1:=by omega
    have oG:(0:Int)<=(k:Int)+1:=by omega
    have oH:(k:Int)<=(k:Int)+1:=by omega
    go_wp2_with fail;refine Um 17 (by kernel_rfl) (by kernel_rfl) ?_;simp only[List.take_succ_cons,List.take_zero,List.drop_succ_cons,List.drop_zero]
    iterate 17 still_step
    refine wpStill_nil ?_;go_wp2_with fail;go_roundw
    case rel=>
     refine⟨k+1,pre,x ++ [s[k]],by omega,by go_num,?_,by omega,?_,?_⟩
     ·rw[HT.out];exact bhZ _ _ _ _ HC.out HS.out
     ·have h5:(wr.setCell ⟨g,pre.length,none⟩ (aI (x ++ [s[k]]))).ownsRow w.heap.size 9 1 (.slice (some ⟨g,0,none⟩) (pre.length+1) cap) (pre.length+1) (pre.map aI ++ [aI (x ++ [s[k]])]):=by
       have:=Ih.out
       simpa using this
      exact h5
     ·exact (HB.out.setCell (p:=⟨g,pre.length,none⟩) q4 _).drew
    case measure=>simp[intOf]<;>omega
  ·go_wp2_with fail;go_ret;refine⟨_,rfl,?_,HB.out⟩;have be:Np.bl s.data.toList=pre ++ [x]:=by have:=HS.out;rwa [Gg s k (by omega)] at this
   rw[be];refine Ln (sz:=1) (e:=9) (base:=w.heap.size) (λx=>[aI x]) (λ_ _=>rfl) ?_ (by simp;omega) (λ_ _=>rfl)
   have:=HO.out
   simpa [Su] using this
theorem bfQ{α:Type}{R:aiQ α}{sz:Nat}(w:World)(B:Nat):SlR R sz w B (.slice none 0 0) []:=⟨none,0,rfl,by simp,by simp,λi x h=>by simp at h⟩
theorem C4(s:ByteArray)(hs:s.size<=1000000)(w:World):Calls prog 233 #[.string s] w (xK RSt 1 w (Np.bO s.data.toList)):=by
 by_cases h:s.data.toList = [46]
 ·have he:(s.toList == [46])=true:=by rw[dQ,h];rfl
  have hp:Np.bO s.data.toList = []:=by rw[Np.bO,Qb h]
  rw[hp];clear h hp;go_enter func233,ntmps233;go_wp2_with fail;go_ret;exact⟨_,rfl,bfQ _ _,vQ _ _⟩
 ·have he:(s.toList == [46])=false:=by rw[dQ];simpa using h
  have hp:Np.bO s.data.toList=Np.bl s.data.toList:=by rw[Np.bO,Qc h]
  rw[hp];clear h hp;go_enter func233,ntmps233;go_wp2_with fail;refine (To s hs _).mono ?_;rintro e w1 ⟨v,rfl,hv,hb⟩;have HV:=jq (And.intro hv hb);clear hv hb;go_wp2_with fail;go_ret;exact⟨_,rfl,HV.out⟩
theorem C8{w:World}{B:Nat}{v:Value}{xs:List (List UInt8)}(h:SlR RSt 1 w B v xs){k:Nat}{x:List UInt8}(hx:xs[k]?=some x):∃ b o c,v = .slice (some ⟨b,o,none⟩) xs.length c/\b<B/\xs.length<=c/\w.cell? ⟨b,o+k,none⟩=some (aI x):=by
 obtain⟨A,c,rfl,hc,_,he⟩:=h;obtain⟨b,o,e,rfl,hb,_,hce,rfl⟩:=he k x hx;exact⟨b,o,c,rfl,hb,hc,by have:=hce 0 _ rfl;simpa using this⟩
end
section
open Go.RowKit Go.MapKept
def dJ(r:Nat)(kvs:List (List UInt8×Value))(w:World):Prop:=∃ es c,w.heap[r]?=some (.map es c)/\es.toList.map (λe=>(e.key,e.val))=kvs.map λp=>(aI p.1,p.2)
theorem dJ.lt{r:Nat}{kvs:List (List UInt8×Value)}{w:World}(h:dJ r kvs w):r<w.heap.size:=by
 obtain⟨es,c,h,_⟩:=h;exact (eQ.1 h).1
theorem dJ.keep{r:Nat}{kvs:List (List UInt8×Value)}{w w':World}{n:Nat}(h:dJ r kvs w)(hb:Below n w w')(hn:r<n):dJ r kvs w':=by
 obtain⟨es,c,h,h2⟩:=h;exact⟨es,c,(hb.block r hn).trans h,h2⟩
theorem dJ.made(w:World):dJ w.heap.size [] (w.alloc (.map #[] 0)):=⟨#[],0,heap_alloc_new _ _,rfl⟩
theorem TZ(x y:List UInt8):((⟨x.toArray⟩:ByteArray) == ⟨y.toArray⟩)=(x == y):=by
 have h:((⟨x.toArray⟩:ByteArray) == ⟨y.toArray⟩)=(x.toArray == y.toArray):=rfl;rw[h,List.beq_toArray]
theorem Eo(x:List UInt8):∀ (es:List MapEntry) (kvs:List (List UInt8×Value)) (i:Nat),es.map (λe=>(e.key,e.val))=kvs.map (λp=>(aI p.1,p.2))->
 (∀ v,kvs.lookup x=some v->∃ j,Instr.findNow .string (aI x) es i=some (some (j,v)))/\(kvs.lookup x=none->Instr.findNow .string (aI x) es i=some none):=by
 intro es
 induction es with
 | nil=>
  intro kvs i h
  cases kvs with
  | nil=>exact⟨λv hv=>by simp at hv,λ_=>rfl⟩
  | cons=>simp at h
 | cons e es ih=>
  intro kvs i h
  cases kvs with
  | nil=>simp at h
  | cons p kvs=>
   obtain⟨y,u⟩:=p;simp only[List.map_cons,List.cons.injEq,Prod.mk.injEq] at h;obtain⟨⟨h1,h2⟩,h3⟩:=h;have hs:Instr.sameNow .string (aI x) e.key=some (x == y):=by rw[h1];simp only[Instr.sameNow];rw[TZ]
   by_cases cH:x=y
   ·subst cH;have hb:(x == x)=true:=by simp
    rw[hb] at hs;refine⟨λv hv=>⟨i,?_⟩,λhv=>?_⟩
    ·rw[List.lookup_cons_self] at hv;simp only[Instr.findNow,hs]
     cases hv
     rw[h2]
    ·rw[List.lookup_cons_self] at hv;cases hv
   ·have hb:(x == y)=false:=by simpa using cH
    rw[hb] at hs;have hl:((y,u)::kvs).lookup x=kvs.lookup x:=by rw[List.lookup_cons,hb]
    rw[hl];obtain⟨i1,i2⟩:=ih kvs (i+1) h3;refine⟨λv hv=>?_,λhv=>?_⟩
    ·obtain⟨j,hj⟩:=i1 v hv;exact⟨j,by simp only[Instr.findNow,hs];exact hj⟩
    ·simp only[Instr.findNow,hs];exact i2 hv
section
variable {P:Program} {ops:Array Oper} {rest:List Oper} {o:Oper} {a:Act} {Q:Exit->Act->World->Prop}
theorem Uk(w:World)(hg:o.guard=none)(m x v:Operand)(t:TypeId)(iP:o.op=Op.mapUpdate t m x v)(kt et:TypeId)(ht:P.underlying t=some (.map kt et))(hk:P.underlying kt=some .string)
 (r:Nat) (kvs:List (List UInt8×Value)) (hm:a.eval m = .map (some r)) (hr:dJ r kvs w) (key:List UInt8) (hx:a.eval x=aI key) (val:Value) (hv:a.eval v=val) (fG:kvs.lookup key=none)
 (hK:∀ w',dJ r (kvs ++ [(key,val)]) w'->Turned r w w'->wpList P ops Q rest (a.put o.dst undef) w'):wpList P ops Q (o::rest) a w:=by
 obtain⟨es,c,hr,he⟩:=hr;have hf:=(Eo key es.toList kvs 0 he).2 fG;refine wpList_plain hg λK' hK'=>?_;have hc:(Instr.checkKey false 10000 kt (aI key)).run P w = .ok () w:=MapKept.run_checkKey (k:=aI key) hk (by simp[MapKept.IsKey]) false 9999;have cY:(Instr.mapUpdate t (.map (some r)) (aI key) val).run P w = .ok () { w with heap:=w.heap.setIfInBounds r (.map (es.push { key:=aI key,val:=val,born:=c }) (c+1)) }:=by
  simp[Instr.mapUpdate,run_underlying ht,MapKept.run_getObj_map hr,hc,MapKept.run_findKey hk hf,MapKept.run_setObj_map _ hr,Result.andThen]
 unfold Oper.wp;simp[execOp,iP,hm,hx,hv,cY,Result.andThen];have hl:r<w.heap.size:=(eQ.1 hr).1;refine hK' _ _ (hK _ ⟨_,_,by simp[hl];exact⟨rfl,rfl⟩,by simp[he]⟩ ⟨rfl,rfl,rfl,by simp,λi hi=>by simp[Ne.symm hi]⟩)
theorem Li(w:World)(t kt et:TypeId)(ht:P.underlying t=some (.map kt et))(hk:P.underlying kt=some .string)(r:Nat)(kvs:List (List UInt8×Value))(hr:dJ r kvs w)(key:List UInt8)(z:Value)(hz:(zeroValue et).run P w = .ok z w) :
 (Instr.lookup t (.map (some r)) (aI key) false).run P w = .ok ((kvs.lookup key).getD z) w:=by
 obtain⟨es,c,hr,he⟩:=hr;have hf:=Eo key es.toList kvs 0 he;have hc:∀ b,(Instr.checkKey b 10000 kt (aI key)).run P w = .ok () w:=λb=>MapKept.run_checkKey (k:=aI key) hk (by simp[MapKept.IsKey]) b 9999
 cases hl:kvs.lookup key with
 | none=>simp[Instr.lookup,run_underlying ht,MapKept.run_getObj_map hr,hc,MapKept.run_findKey hk (hf.2 hl),Result.andThen,hz]
 | some v=>
  obtain⟨j,hj⟩:=hf.1 v hl;simp[Instr.lookup,run_underlying ht,MapKept.run_getObj_map hr,hc,MapKept.run_findKey hk hj,Result.andThen]
end
end
section
open Go.RowKit
def RTx(_:World)(_:Nat)(e:List Value)(x:List UInt8):Prop:=∃ s:ByteArray,s.data.toList=x/\s.size<=140737488355328/\e = [.string s]
theorem jt:dl RTx:=λ_ _ _ _ _ h _=>h
theorem zI:dy RTx:=λ_ _ _ _ _ h _=>h
def gg(a:List UInt8)(l:List Np.Signed):List (List UInt8×Value):=(l.filter λx=>decide (x.set.type=2)&&!(x.set.name == a)).map λx=>(x.set.name,.bool true)
theorem Zg(a:List UInt8)(l:List Np.Signed)(x:Np.Signed):gg a (l ++ [x])=if x.set.type=2/\x.set.name≠a then gg a l ++ [(x.set.name,.bool true)] else gg a l:=by
 unfold gg;rw[List.filter_append];by_cases h1:x.set.type=2<;>by_cases h2:x.set.name=a<;>simp[h1,h2]
theorem Zf(a:List UInt8)(l:List Np.Signed)(x:Np.Signed):gg a (x::l)=if x.set.type=2/\x.set.name≠a then (x.set.name,.bool true)::gg a l else gg a l:=by
 unfold gg;by_cases h1:x.set.type=2<;>by_cases h2:x.set.name=a<;>simp[h1,h2]
theorem Ek(a:List UInt8)(n:List UInt8):∀ l:List Np.Signed,((gg a l).lookup n).getD (.bool false) = .bool (Np.cN ⟨a,l⟩ n)/\((∀ x∈l,x.set.type=2->x.set.name≠n)->(gg a l).lookup n=none)
 | []=>⟨rfl,λ_=>rfl⟩
 | x::l=>by
   obtain⟨i1,i2⟩:=Ek a n l;have e:Np.cN ⟨a,x::l⟩ n=((decide (x.set.type=2)&&!(x.set.name == a)&&x.set.name == n)||Np.cN ⟨a,l⟩ n):=rfl;rw[Zf];split
   ·rename_i h;by_cases hn:x.set.name=n
    ·rw[hn,List.lookup_cons_self];refine⟨?_,λhh=>absurd hn (hh x (by simp) h.1)⟩;rw[e];have h2:=h.2;rw[hn] at h2 |-;simp[h.1,h2]
    ·have hb:(n == x.set.name)=false:=by simpa using λe=>hn e.symm
     rw[List.lookup_cons,hb];refine⟨?_,λhh=>i2 λy hy=>hh y (mQ _ hy)⟩;have aa:(x.set.name == n)=false:=by simpa using hn
     rw[e,aa,Bool.and_false,Bool.false_or];exact i1
   ·rename_i h;refine⟨?_,λhh=>i2 λy hy=>hh y (mQ _ hy)⟩;have hf:(decide (x.set.type=2)&&!(x.set.name == a))=false:=by
     rw[Bool.and_eq_false_iff];by_cases h1:x.set.type=2
     ·right
      have:x.set.name=a:=Decidable.not_not.1 λh2=>h ⟨h1,h2⟩
      simp[this]
     ·left;simpa using h1
    rw[e,hf,Bool.false_and,Bool.false_or];exact i1
theorem K5(n j:Nat)(hj:j<n):(madeCells #[Value.string ⟨#[]⟩] n)[j]?=some (.string ⟨#[]⟩):=by
 unfold madeCells;simp[hj,Nat.mod_one]
theorem Tryz.infoStrZ:(prog.info? 9).map (λi=>(i.zero,i.size,i.bytes))=some (some (.string ⟨#[]⟩),1,16):=by kernel_rfl
theorem K6(n:Nat)(hn:n<=20000)(w:World):(Instr.makeSlice 116 (.int .i64 n) (.int .i64 n)).run prog w = .ok (.slice (some ⟨w.heap.size,0,none⟩) n n) (w.alloc (.cells (madeCells #[Value.string ⟨#[]⟩] n) 9)):=by
 obtain⟨i,hi,hp⟩:=Option.map_eq_some_iff.1 Tryz.infoStrZ;simp only[Prod.mk.injEq] at hp;obtain⟨hz,hs,hb⟩:=hp
 have:=run_make (P:=prog) w 116 9 i (.string ⟨#[]⟩) underlying116 hi hz .i64 .i64 n n (by omega) (Int.le_refl _) (by rw[hb];omega) (by omega)
 rw[hs] at this;simpa [Value.cells] using this
def fk(w:World)(B:Nat)(xs:List (List UInt8)):Prop:=∀ j x,xs[j]?=some x->∃ s:ByteArray,s.data.toList=x/\s.size<=140737488355328/\w.cell? ⟨B,j,none⟩=some (.string s)/\w.frozen? ⟨B,j,none⟩=false
theorem fk.keep{w w':World}{B n:Nat}{xs:List (List UInt8)}(h:fk w B xs)(hb:Below n w w')(hB:B<n):fk w' B xs:=λj x hx=>by
 obtain⟨s,h1,h2,h3,h4⟩:=h j x hx;exact⟨s,h1,h2,(hb.cell (p:=⟨B,j,none⟩) hB).trans h3,(hb.frozen (p:=⟨B,j,none⟩) hB).trans h4⟩
theorem fk.store{w:World}{B:Nat}{xs:List (List UInt8)}(h:fk w B xs){k:Nat}(hk:k<xs.length)(s:ByteArray)(hs:s.size<=140737488355328):fk (w.setCell ⟨B,k,none⟩ (.string s)) B (xs.set k s.data.toList):=λj x hx=>by
 rw[List.getElem?_set] at hx;by_cases Cb:k=j
 ·subst Cb;rw[Qb rfl,Qb hk] at hx
  cases hx
  obtain⟨s0,_,_,h3,h4⟩:=h k _ (aQ hk);exact⟨s,rfl,hs,by simp[World.cell?_setCell_same,h3],(World.frozen?_setCell _ _ _ _).trans h4⟩
 ·rw[Qc Cb] at hx;obtain⟨s0,h1,h2,h3,h4⟩:=h j x hx;exact⟨s0,h1,h2,by rw[xQ _ _ _ _ (by simp<;>omega)];exact h3,(World.frozen?_setCell _ _ _ _).trans h4⟩
theorem fk.other{w:World}{B:Nat}{xs:List (List UInt8)}(h:fk w B xs){p:Addr}(hp:p.block≠B)(u:Value):fk (w.setCell p u) B xs:=λj x hx=>by
 obtain⟨s,h1,h2,h3,h4⟩:=h j x hx;exact⟨s,h1,h2,(xQ _ _ _ _ (λe=>hp (by rw[e]))).trans h3,(World.frozen?_setCell _ _ _ _).trans h4⟩
theorem fk.slr{w:World}{B:Nat}{xs:List (List UInt8)}(h:fk w B xs)(hB:B<w.heap.size)(hl:xs.length<=140737488355328):SlR RTx 1 w w.heap.size (.slice (some ⟨B,0,none⟩) xs.length xs.length) xs:=
 ⟨_,_,rfl,bQ _,hl,λj x hx=>by
  obtain⟨s,h1,h2,h3,_⟩:=h j x hx;refine⟨B,0,[.string s],rfl,hB,rfl,λi v hv=>?_,s,h1,h2,rfl⟩
  match i,hv with
  | 0,hv=>cases hv;simpa using h3⟩
theorem Tv{bs:List (List UInt8)}{n k:Nat}{b:List UInt8}(hn:bs.length=n)(hb:bs[k]?=some b):(bs.take k++List.replicate (n - k) []).set k b=bs.take (k+1)++List.replicate (n - (k+1)) []:=by
 obtain⟨hk,rfl⟩:=cQ.1 hb;have e:n - k=(n - (k+1))+1:=by omega
 rw[e,List.replicate_succ,List.set_append_right _ _ (by rw[List.length_take];omega),List.length_take,show k - min k bs.length=0 by omega,List.set_cons_zero,fQ hk,List.append_assoc];rfl
structure LayK(w:World)(M Bl Bs:Nat)(a:ByteArray)(v sl:Value)(kv:List (List UInt8×Value))(wr:World)(bs:List (List UInt8)):Prop where
 below:Below w.heap.size w wr
 b0:wr.cell? ⟨w.heap.size,0,none⟩=some (.string a)
 b1:wr.cell? ⟨w.heap.size,1,none⟩=some v
 r0:wr.cell? ⟨w.heap.size+1,0,none⟩=some (.string ⟨#[]⟩)
 r1:wr.cell? ⟨w.heap.size+1,1,none⟩=some (.slice none 0 0)
 r2:wr.cell? ⟨w.heap.size+1,2,none⟩=some (.slice none 0 0)
 l0:wr.cell? ⟨Bl,0,none⟩=some (.string a)
 l1:wr.cell? ⟨Bl,1,none⟩=some v
 l2:wr.cell? ⟨Bl,2,none⟩=some sl
 map:dJ M kv wr
 row:fk wr Bs bs
 blt:Bl<wr.heap.size
 slt:Bs<wr.heap.size
 rf:∀ j,wr.frozen? ⟨w.heap.size+1,j,none⟩=false
structure LayB(n M Bl Bs:Nat):Prop where
 map:n+2=M
 lay:M<Bl
 row:M<Bs
 ne:Bl≠Bs
theorem LayK.keep{w:World}{M Bl Bs:Nat}{a:ByteArray}{v sl:Value}{kv:List (List UInt8×Value)}{wr wx:World}{bs:List (List UInt8)}(h:LayK w M Bl Bs a v sl kv wr bs)(hB:LayB w.heap.size M Bl Bs)(hb:Below wr.heap.size wr wx):LayK w M Bl Bs a v sl kv wx bs:=by
 have h1:=hB.map;have h2:=hB.lay;have h3:=h.blt;have h4:=h.slt;have h5:=h.map.lt;have ay:=hb.size;exact⟨h.below.trans (hb.mono h.below.size),(hb.cell (by simp<;>omega)).trans h.b0,(hb.cell (by simp<;>omega)).trans h.b1,(hb.cell (by simp<;>omega)).trans h.r0,(hb.cell (by simp<;>omega)).trans h.r1,(hb.cell (by simp<;>omega)).trans h.r2,
  (hb.cell (by simp<;>omega)).trans h.l0,(hb.cell (by simp<;>omega)).trans h.l1,(hb.cell (by simp<;>omega)).trans h.l2,h.map.keep hb h5,h.row.keep hb h4,by omega,by omega,λj=>(hb.frozen (by simp<;>omega)).trans (h.rf j)⟩
theorem dJ.setCell{r:Nat}{kvs:List (List UInt8×Value)}{w:World}(h:dJ r kvs w){p:Addr}(hp:p.block≠r)(u:Value):dJ r kvs (w.setCell p u):=by
 obtain⟨es,c,h1,h2⟩:=h;exact⟨es,c,(wQ _ _ _ _ (λe=>hp e.symm)).trans h1,h2⟩
theorem LayK.store{w:World}{M Bl Bs:Nat}{a:ByteArray}{v sl:Value}{kv:List (List UInt8×Value)}{wr:World}{bs:List (List UInt8)}(h:LayK w M Bl Bs a v sl kv wr bs)(hB:LayB w.heap.size M Bl Bs){k:Nat}(hk:k<bs.length)(s:ByteArray)(hs:s.size<=140737488355328):LayK w M Bl Bs a v sl kv (wr.setCell ⟨Bs,k,none⟩ (.string s)) (bs.set k s.data.toList):=by
 have h1:=hB.map;have h2:=hB.lay;have h3:=hB.row;have h4:=hB.ne;exact⟨h.below.setCell (by simp<;>omega) _,(xQ _ _ _ _ (by simp<;>omega)).trans h.b0,(xQ _ _ _ _ (by simp<;>omega)).trans h.b1,(xQ _ _ _ _ (by simp<;>omega)).trans h.r0,(xQ _ _ _ _ (by simp<;>omega)).trans h.r1,(xQ _ _ _ _ (by simp<;>omega)).trans h.r2,
  (xQ _ _ _ _ (by simp<;>omega)).trans h.l0,(xQ _ _ _ _ (by simp<;>omega)).trans h.l1,(xQ _ _ _ _ (by simp<;>omega)).trans h.l2,h.map.setCell (by simp<;>omega) _,h.row.store hk s hs,by simpa using h.blt,by simpa using h.slt,λj=>(World.frozen?_setCell _ _ _ _).trans (h.rf j)⟩
def Og(w:World)(M Bl Bs:Nat)(a:ByteArray)(v sl:Value)(kv:List (List UInt8×Value))(B:List (List UInt8))(C:List UInt8->Bool)(l:List Np.Signed)(vc i:Value)(wr:World):Prop:=
 ∃ (k:Nat) (sc:ByteArray),k<=l.length/\i = .int .i64 k/\vc = .string sc/\sc.size<=140737488355328/\Hid (LayK w M Bl Bs a v sl kv wr (B.take k++List.replicate (l.length - k) []))/\Hid (sc.data.toList = []\/Np.al sc.data.toList=true)/\Hid (B.drop k=Np.om C sc.data.toList (l.drop k))
def LayA(M:Nat)(w1:World)(a:List UInt8)(l:List Np.Signed)(i:Value)(wr:World):Prop:=
 ∃ k:Nat,k<=l.length/\i = .int .i64 k/\Hid (Below M w1 wr)/\Hid (dJ M (gg a (l.take k)) wr)
theorem aOQ(a:ByteArray)(v:Value)(l:List Np.Signed)(bY:l.length<=20000)(hv:∀ x∈l,Np.al x.set.name=true)(hs:Np.rI l)(w:World)(hd:SlR br 5 w w.heap.size v l) :
 Calls prog 200 #[.agg #[.string a,v]] w λe w'=>(∃ bv,e = .returned (.agg #[.string a,v,bv])/\SlR RTx 1 w' w'.heap.size bv (Np.dL ⟨a.data.toList,l⟩))/\Below w.heap.size w w':=by
 obtain⟨B,Ex⟩:=afZ (Np.dL ⟨a.data.toList,l⟩);rw[Ex];have da:=jq Ex;have fL:Hid (B.length=l.length):=jq (by rw[<-Ex];exact Np.tE _);clear Ex;have HV:=jq hv;have HS:=jq hs;have HD:=jq hd;obtain⟨A,c,rfl,bw,bT⟩:=ak hd;clear hv hs hd;have sr:∀ (w:World),(Instr.makeMap 111 none).run prog w = .ok (.map (some w.heap.size)) (w.alloc (.map #[] 0)):=λw=>by
  simp[Instr.makeMap,Result.andThen]
 have HW:Hid (∀ o o' o'',Below w.heap.size w (((w.alloc o).alloc o').alloc o'')):=jq (λo o' o''=>(((vQ _ w).alloc (bQ _) _).alloc (by simp) _).alloc (by simp;omega) _);go_enter func200,ntmps200;go_wp2_with fail;obtain⟨w1,am⟩:=afZ (((w.alloc (.cells #[.string a,.slice A l.length c] 263)).alloc (.cells #[.string ⟨#[]⟩,.slice none 0 0,.slice none 0 0] 265)).alloc (.map #[] 0));have c0:w1.cell? ⟨w.heap.size,0,none⟩=some (.string a):=by rw[<-am];simp[go_sem]
 have c1:w1.cell? ⟨w.heap.size,1,none⟩=some (.slice A l.length c):=by rw[<-am];simp[go_sem]
 have e0:w1.cell? ⟨w.heap.size+1,0,none⟩=some (.string ⟨#[]⟩):=by rw[<-am];simp[go_sem]
 have e1:w1.cell? ⟨w.heap.size+1,1,none⟩=some (.slice none 0 0):=by rw[<-am];simp[go_sem]
 have e2:w1.cell? ⟨w.heap.size+1,2,none⟩=some (.slice none 0 0):=by rw[<-am];simp[go_sem]
 have dG:w1.heap.size=w.heap.size+3:=by rw[<-am];simp
 have Ng:Hid (dJ (w.heap.size+1+1) [] w1):=jq (by
  have:=dJ.made ((w.alloc (.cells #[.string a,.slice A l.length c] 263)).alloc (.cells #[.string ⟨#[]⟩,.slice none 0 0,.slice none 0 0] 265))
  rw[<-am];simpa using this)
 have aF:Hid (Below w.heap.size w w1):=jq (by rw[<-am];exact HW.out _ _ _);have G6:Hid (∀ j,w1.frozen? ⟨w.heap.size+1,j,none⟩=false):=jq (λj=>by rw[<-am];simp[go_sem]);have HC:=jq (And.intro c0 (And.intro c1 (And.intro e0 (And.intro e1 e2))));rw[am];clear am c0 c1 e0 e1 e2;obtain⟨M,hM⟩:=afZ (w.heap.size+1+1);rw[hM] at Ng |-;go_loopw [18] (λi wr=>LayA M w1 a.data.toList l i wr) (λi _=>l.length - (intOf i).toNat)
 case atStart=>exact⟨0,jQ _,rfl,jq (vQ _ _),Ng⟩
 case round=>
  obtain⟨k,hk,rfl,HB,HM⟩:=hrel;have ay:=HB.out.size;obtain⟨c0,c1,e0,e1,e2⟩:=HC.out;have d0:wr.cell? ⟨w.heap.size,0,none⟩=some (.string a):=by rw[HB.out.cell (by simp;omega)];exact c0
  have d1:wr.cell? ⟨w.heap.size,1,none⟩=some (.slice A l.length c):=by rw[HB.out.cell (by simp;omega)];exact c1
  have qL:=HM.out.lt;have du:w.heap.size<wr.heap.size:=by omega
  have aH:Hid (Below w.heap.size w wr):=aeX aF HB.out;have VB:Hid (∀ j,wr.frozen? ⟨w.heap.size+1,j,none⟩=false):=jq (λj=>(HB.out.frozen (p:=⟨w.heap.size+1,j,none⟩) (by dsimp only;omega)).trans (G6.out j));have Al:Hid (wr.cell? ⟨w.heap.size+1,0,none⟩=some (.string ⟨#[]⟩)/\wr.cell? ⟨w.heap.size+1,1,none⟩=some (.slice none 0 0)/\wr.cell? ⟨w.heap.size+1,2,none⟩=some (.slice none 0 0)):=jq ⟨(HB.out.cell (by dsimp only;omega)).trans e0,(HB.out.cell (by dsimp only;omega)).trans e1,(HB.out.cell (by dsimp only;omega)).trans e2⟩;clear c0 c1 e0 e1 e2;by_cases ab:k<l.length
  ·have ae:=aQ ab;obtain⟨b,o,c',sn,dv,sv,hA,bZ,_,aD,cu,aY,aN,f0,f1,f2,f3,f4⟩:=dB (HD.out.keep aP aH.out) ae
   cases hA
   have ht:l.take (k+1)=l.take k ++ [l[k]]:=fQ ab;have Ws:Hid (l[k].set.type=2->(gg a.data.toList (l.take k)).lookup sn.data.toList=none):=jq (λh2=>by
    refine (Ek _ _ _).2 λy hy h3 he=>?_;obtain⟨j,hj,rfl⟩:=nQ.1 hy;rw[List.length_take] at hj;have h4:=Gc HS.out (aQ (show j<l.length by omega)) ae (by omega);rw[List.getElem_take] at h3 he;have h5:Np.cx l[j].set=Np.cx l[k].set:=by unfold Np.cx;rw[h3,h2,he,aD]
    rw[h5,Np.xD.self] at h4;omega)
   have HT:Hid (∀ kv,(if l[k].set.type=2/\l[k].set.name≠a.data.toList then gg a.data.toList (l.take k) ++ [(l[k].set.name,.bool true)] else gg a.data.toList (l.take k))=kv->gg a.data.toList (l.take (k+1))=kv):=jq (λkv h=>by rw[ht,Zg];exact h);generalize hx:l[k]=x at *;clear hx ht;obtain⟨Ad,cd,rfl,_,_⟩:=ak aY;obtain⟨As,cs,rfl,_,_⟩:=ak aN;have aZ:=jq aD;have fK:Hid (∀ o,Below wr.heap.size wr (wr.alloc o)):=jq (λo=>blAl);have bA:Hid (∀ o,Below M w1 (wr.alloc o)):=jq (λo=>HB.out.alloc (by omega) _);clear ae aD aY aN;by_cases h2:x.set.type=2
   ·have aa:(x.set.type == 2)=true:=by simpa using h2
    by_cases hn:x.set.name=a.data.toList
    ·have im:(!sn.toList == a.toList)=false:=by rw[dQ,dQ,aZ.out,hn];simp
     have iE:=jq (HT.out _ (Qc λh=>h.2 hn));clear h2 hn;go_wp2_with fail;go_roundw
     case rel=>exact⟨k+1,by omega,by go_num,jq (bA.out _),jq (by rw[iE.out];exact HM.out.keep (fK.out _) qL)⟩
     ·simp[intOf]<;>omega
    ·have im:(!sn.toList == a.toList)=true:=by rw[dQ,dQ,aZ.out];simpa using hn
     have iE:=jq (HT.out _ (Qb ⟨h2,hn⟩));have kS:=jq (Ws.out h2);clear h2 hn;go_wp2_with (at_mapUpdate;refine Uk _ rfl _ _ _ 111 rfl 9 4 underlying111 underlying9 M (gg a.data.toList (l.take k)) rfl (HM.out.keep (fK.out _) qL) sn.data.toList rfl (.bool true) rfl kS.out ?_;intro w5 lq mc;have H5:=jq (And.intro lq mc);clear lq mc);go_roundw
     case rel=>exact⟨k+1,by omega,by go_num,jq ((bA.out _).trans (H5.out.2.below (bQ _))),jq (by rw[iE.out,<-aZ.out];exact H5.out.1)⟩
     ·simp[intOf]<;>omega
   ·have aa:(x.set.type == 2)=false:=by simpa using h2
    have iE:=jq (HT.out _ (Qc λh=>h2 h.1));clear h2;go_wp2_with fail;go_roundw
    case rel=>exact⟨k+1,by omega,by go_num,jq (bA.out _),jq (by rw[iE.out];exact HM.out.keep (fK.out _) qL)⟩
    ·simp[intOf]<;>omega
  ·have nA:k=l.length:=by omega
   subst nA;rw[List.take_length] at HM;go_wp2_with fail;have ir:=K6 l.length bY;have HZ:Hid (∀ j,j<l.length->(madeCells #[Value.string ⟨#[]⟩] l.length)[j]?=some (.string ⟨#[]⟩)):=jq (λj hj=>K5 _ _ hj);generalize madeCells #[Value.string ⟨#[]⟩] l.length=Z at ir HZ;have Du:=jq (And.intro d0 d1);have DN:Hid (∀ (Bl Bs:Nat) (w5:World),Below wr.heap.size wr w5->M<Bl->M<Bs->Bl≠Bs->Bl<w5.heap.size->Bs<w5.heap.size->w5.cell? ⟨Bl,0,none⟩=some (.string a)->w5.cell? ⟨Bl,1,none⟩=some (.slice A l.length c)->w5.cell? ⟨Bl,2,none⟩=some (.slice (some ⟨Bs,0,none⟩) l.length l.length)->(∀ j,j<l.length->w5.cell? ⟨Bs,j,none⟩=some (.string ⟨#[]⟩))->(∀ j,w5.frozen? ⟨Bs,j,none⟩=false)->
    LayB w.heap.size M Bl Bs/\LayK w M Bl Bs a (.slice A l.length c) (.slice (some ⟨Bs,0,none⟩) l.length l.length) (gg a.data.toList l) w5 (List.replicate l.length [])):=jq (λBl Bs w5 hb h1 h2 h3 h4 h5 k0 k1 k2 hz vY=>by
    refine⟨⟨by omega,h1,h2,h3⟩,aH.out.trans (hb.afK),(hb.cell (by dsimp only;omega)).trans Du.out.1,(hb.cell (by dsimp only;omega)).trans Du.out.2,(hb.cell (by dsimp only;omega)).trans Al.out.1,(hb.cell (by dsimp only;omega)).trans Al.out.2.1,(hb.cell (by dsimp only;omega)).trans Al.out.2.2,k0,k1,k2,HM.out.keep hb qL,λj x hx=>?_,h4,h5,λj=>(hb.frozen (by dsimp only;omega)).trans (VB.out j)⟩;rw[List.getElem?_replicate] at hx;split at hx
    ·rename_i hj
     cases hx
     exact⟨⟨#[]⟩,rfl,by decide,hz j hj,vY j⟩
    ·cases hx)
   go_region
   ·obtain⟨w5,aK⟩:=afZ (((wr.alloc (.cells Z 9)).alloc (.cells #[.string a,.slice A l.length c,.slice (some ⟨wr.heap.size,0,none⟩) l.length l.length] 265)).drew);have aG:Below wr.heap.size wr w5:=by rw[<-aK];exact ((blAl).alloc (by simp) _).drew
    have hp:=DN.out (wr.heap.size+1) wr.heap.size w5 aG (by omega) (by omega) (by omega) (by rw[<-aK];simp) (by rw[<-aK];simp;omega) (by rw[<-aK];simp[go_sem]) (by rw[<-aK];simp[go_sem]) (by rw[<-aK];simp[go_sem]) (λj hj=>by rw[<-aK];simp[go_sem];exact HZ.out j hj) (λj=>by rw[<-aK];simp[go_sem]);rw[aK];obtain⟨BC,BD⟩:=hp;have gd:=jq BC;have pd:=jq BD;clear aK aG BC BD ir DN HZ Al Du HB aH d0 d1;generalize wr.heap.size+1=X1 at *;generalize wr.heap.size=X0 at *;have c50:=pd.out.b0;have c51:=pd.out.b1;go_wp2_with fail;clear c50 c51;go_loopw [7,51] (λvc i wr=>Og w M X1 X0 a (.slice A l.length c) (.slice (some ⟨X0,0,none⟩) l.length l.length) (gg a.data.toList l) B (Np.cN ⟨a.data.toList,l⟩) l vc i wr) (λ_ i _=>l.length - (intOf i).toNat)
    case atStart=>exact⟨0,⟨#[]⟩,jQ _,rfl,rfl,by decide,jq pd.out,jq (.inl rfl),jq (by rw[<-da.out];rfl)⟩
    case round=>
     obtain⟨k,sc,hk,rfl,rfl,fY,HK,vw,HE⟩:=hrel;have oG:=HK.out.l2;have b7:=HK.out.blt;have oz:=HK.out.slt;have qL:=HK.out.map.lt;have gw:=HK.out.below.size;by_cases ab:k<l.length
     ·have ae:=aQ ab;obtain⟨b,o,c',sn,dv,sv,hA,bZ,_,aD,cu,aY,aN,f0,f1,f2,f3,f4⟩:=dB (HD.out.keep aP HK.out.below) ae
      cases hA
      have dV:Hid (Np.al sn.data.toList=true):=jq (by rw[aD];exact HV.out _ (List.getElem_mem ab));have cV:Hid (B[k]?=some (Np.dC (Np.cN ⟨a.data.toList,l⟩) sc.data.toList sn.data.toList)/\B.drop (k+1)=Np.om (Np.cN ⟨a.data.toList,l⟩) (Np.dC (Np.cN ⟨a.data.toList,l⟩) sc.data.toList sn.data.toList) (l.drop (k+1))):=jq (by
       have h1:=HE.out;rw[sQ ab,Np.om,<-aD] at h1;refine⟨?_,?_⟩
       ·have:=List.getElem?_drop (xs:=B) (i:=k) (j:=0)
        rw[h1,Nat.add_zero] at this;exact this.symm
       ·have:=Qd (List.drop 1) h1
        rw[List.drop_drop] at this;simpa using this)
      obtain⟨s0,_,_,iR,oB⟩:=HK.out.row k [] (by
       rw[oQ (by rw[List.length_take];omega),List.length_take,fL.out,show k - min k l.length=0 by omega,List.getElem?_replicate,Qb (by omega)])
      have kP:Hid (∀ (wx:World) (s:ByteArray),Below wr.heap.size wr wx->s.size<=140737488355328->s.data.toList=Np.dC (Np.cN ⟨a.data.toList,l⟩) sc.data.toList sn.data.toList->LayK w M X1 X0 a (.slice (some ⟨b,o,none⟩) l.length c) (.slice (some ⟨X0,0,none⟩) l.length l.length) (gg a.data.toList l) (wx.setCell ⟨X0,k,none⟩ (.string s)) (B.take (k+1)++List.replicate (l.length - (k+1)) [])):=jq (λwx s hb ay hs=>by
       rw[<-Tv fL.out cV.out.1,<-hs];exact (HK.out.keep gd.out hb).store gd.out (by rw[List.length_append,List.length_take,List.length_replicate,fL.out];omega) s ay)
      have Hx:=jq HK.out.map;have fK:Hid (∀ o,Below wr.heap.size wr (wr.alloc o)):=jq (λo=>blAl);generalize hx:l[k]=x at *;clear hx ae;obtain⟨Ad,cd,rfl,_,_⟩:=ak aY;obtain⟨As,cs,rfl,_,_⟩:=ak aN;clear aD aY aN;have cj:=kNN k;have ck:(k:Int)<(l.length:Int):=by omega
      obtain⟨cb,eT⟩:=afZ (Np.cN ⟨a.data.toList,l⟩ sn.data.toList);have ml:=jq eT;have mq:Hid (((gg a.data.toList l).lookup sn.data.toList).getD (.bool false) = .bool cb):=jq (by rw[<-eT];exact (Ek _ _ l).1);clear eT;have uY:Hid (∀ wx,Below wr.heap.size wr wx->Sem.run prog (Instr.lookup 111 (.map (some M)) (.string sn) false) wx = .ok (.bool cb) wx):=jq (λwx hb=>by
       have:=Li (P:=prog) wx 111 9 4 underlying111 underlying9 M (gg a.data.toList l) (Hx.out.keep hb qL) sn.data.toList (.bool false) (by kernel_rfl)
       rw[mq.out] at this;exact this)
      by_cases hce:sc.data.toList = []
      ·obtain rfl:sc=⟨#[]⟩:=iC hce;have dU:Hid (cb=true->sn.data.toList=Np.dC (Np.cN ⟨a.data.toList,l⟩) [] sn.data.toList):=jq (λh=>by
        unfold Np.dC;rw[ml.out,h];simp)
       have fN:Hid (cb=false->[]=Np.dC (Np.cN ⟨a.data.toList,l⟩) [] sn.data.toList):=jq (λh=>by
        unfold Np.dC;rw[ml.out,h];simp)
       clear hce
       cases cb with
       | true=>
        have gh:∀ o,Sem.run prog (Instr.lookup 111 (.map (some M)) (.string sn) false) (wr.alloc o) = .ok (.bool true) (wr.alloc o):=λo=>uY.out _ (fK.out o);go_wp2_with fail;go_roundw
        case rel=>exact⟨k+1,sn,by omega,by go_num,rfl,cu,jq ((kP.out wr sn (vQ _ _) cu (dU.out (by simp))).keep gd.out (blAl)),jq (.inr dV.out),jq (by rw[dU.out (by simp)];exact cV.out.2)⟩
        ·simp[intOf]<;>omega
       | false=>
        have gh:∀ o,Sem.run prog (Instr.lookup 111 (.map (some M)) (.string sn) false) (wr.alloc o) = .ok (.bool false) (wr.alloc o):=λo=>uY.out _ (fK.out o);go_wp2_with fail;go_roundw
        case rel=>exact⟨k+1,⟨#[]⟩,by omega,by go_num,rfl,by decide,jq ((kP.out wr ⟨#[]⟩ (vQ _ _) (by decide) (fN.out (by simp))).keep gd.out (blAl)),jq (.inl rfl),jq (by rw[show (⟨#[]⟩:ByteArray).data.toList = [] from rfl,fN.out (by simp)];exact cV.out.2)⟩
        ·simp[intOf]<;>omega
      ·have avZ:(!sc.toList == [])=true:=by rw[dQ];simpa using hce
       have y9:(sc.toList == [])=false:=by rw[dQ];simpa using hce
       have j8:Hid (Np.al sc.data.toList=true):=jq (vw.out.resolve_left hce);have jZ:=jq hce;have hMs:M<wr.heap.size:=qL;clear hce;go_wp2_with fail;refine (zN sn sc cu fY _ dV.out j8.out).mono ?_;rintro e w2 ⟨rfl,aa⟩;have ah:=jq ((fK.out _).trans (aa.mono (by simp)));have dF:w2.cell? ⟨X1,2,none⟩=some (.slice (some ⟨X0,0,none⟩) l.length l.length):=aeK ah.out oG;have fH:w2.cell? ⟨X0,k,none⟩=some (.string s0):=aeK ah.out iR;have aO:=ah.out.size;have hf2:w2.frozen? ⟨X0,k,none⟩=false:=(ah.out.frozen (by dsimp only;omega)).trans oB;clear aa oG iR oB
       cases eV:Np.aX sn.data.toList sc.data.toList with
       | true=>
        have dU:Hid (sc.data.toList=Np.dC (Np.cN ⟨a.data.toList,l⟩) sc.data.toList sn.data.toList):=jq (by
         unfold Np.dC;simp[jZ.out,eV])
        clear eV;go_wp2_with fail;go_roundw
        case rel=>exact⟨k+1,sc,by omega,by go_num,rfl,fY,jq (kP.out _ sc ah.out fY dU.out),jq (.inr j8.out),jq (by rw[dU.out];exact cV.out.2)⟩
        ·simp[intOf]<;>omega
       | false=>
        have dU:Hid (cb=true->sn.data.toList=Np.dC (Np.cN ⟨a.data.toList,l⟩) sc.data.toList sn.data.toList):=jq (λh=>by
         unfold Np.dC;rw[ml.out,h];simp[eV,jZ.out])
        have fN:Hid (cb=false->[]=Np.dC (Np.cN ⟨a.data.toList,l⟩) sc.data.toList sn.data.toList):=jq (λh=>by
         unfold Np.dC;rw[ml.out,h];simp[eV,jZ.out])
        clear eV;have gh:=uY.out w2 ah.out
        cases cb with
        | true=>
         go_wp2_with fail;go_roundw
         case rel=>exact⟨k+1,sn,by omega,by go_num,rfl,cu,jq (kP.out _ sn ah.out cu (dU.out (by simp))),jq (.inr dV.out),jq (by rw[dU.out (by simp)];exact cV.out.2)⟩
         ·simp[intOf]<;>omega
        | false=>
         go_wp2_with fail;go_roundw
         case rel=>exact⟨k+1,⟨#[]⟩,by omega,by go_num,rfl,by decide,jq (kP.out _ ⟨#[]⟩ ah.out (by decide) (fN.out (by simp))),jq (.inl rfl),jq (by rw[show (⟨#[]⟩:ByteArray).data.toList = [] from rfl,fN.out (by simp)];exact cV.out.2)⟩
         ·simp[intOf]<;>omega
     ·have Cc:k=l.length:=by omega
      have kN:Hid (B.take k++List.replicate (l.length - k) []=B):=jq (by rw[Cc,Nat.sub_self,List.replicate_zero,List.append_nil,kQ (by rw[fL.out];exact bQ _)]);clear Cc;have g0:=HK.out.l0;have g1:=HK.out.l1;have r0:=HK.out.r0;have r1:=HK.out.r1;have r2:=HK.out.r2;have rf0:=HK.out.rf 0;have rf1:=HK.out.rf 1;have rf2:=HK.out.rf 2;go_wp2_with fail;obtain⟨w6,bC⟩:=afZ (((wr.setCell ⟨w.heap.size+1,0,none⟩ (.string a)).setCell ⟨w.heap.size+1,1,none⟩ (.slice A l.length c)).setCell ⟨w.heap.size+1,2,none⟩ (.slice (some ⟨X0,0,none⟩) l.length l.length));have q0:w6.cell? ⟨w.heap.size+1,0,none⟩=some (.string a):=by rw[<-bC];simp[go_sem,r0]
      have q1:w6.cell? ⟨w.heap.size+1,1,none⟩=some (.slice A l.length c):=by rw[<-bC];simp[go_sem,r1]
      have q2:w6.cell? ⟨w.heap.size+1,2,none⟩=some (.slice (some ⟨X0,0,none⟩) l.length l.length):=by rw[<-bC];simp[go_sem,r2]
      have h1:=gd.out.map;have h2:=gd.out.row;have cn:Hid (Below w.heap.size w w6):=jq (by rw[<-bC];exact ((HK.out.below.setCell (by simp) _).setCell (by simp) _).setCell (by simp) _);have Iq:Hid (SlR RTx 1 w6 w6.heap.size (.slice (some ⟨X0,0,none⟩) l.length l.length) B):=jq (by
       have h3:=HK.out.row;rw[kN.out] at h3;have h4:=((h3.other (p:=⟨w.heap.size+1,0,none⟩) (by simp;omega) (.string a)).other (p:=⟨w.heap.size+1,1,none⟩) (by simp;omega) (.slice A l.length c)).other (p:=⟨w.heap.size+1,2,none⟩) (by simp;omega) (.slice (some ⟨X0,0,none⟩) l.length l.length);rw[bC] at h4;have h5:=h4.slr (by rw[<-bC];simp;omega) (by rw[fL.out];omega);rw[fL.out] at h5;exact h5)
      rw[bC];clear bC r0 r1 r2 rf0 rf1 rf2 g0 g1 oG;refine bodyPost_ret (v:=.agg #[.string a,.slice A l.length c,.slice (some ⟨X0,0,none⟩) l.length l.length]) ?_ rfl ⟨⟨_,rfl,Iq.out⟩,cn.out⟩;simp[results,results200,go_sem,q0,q1,q2]
   ·obtain⟨w5,aK⟩:=afZ (((wr.alloc (.cells #[.string a,.slice A l.length c,.slice (some ⟨wr.heap.size+1,0,none⟩) l.length l.length] 265)).alloc (.cells Z 9)).drew);have aG:Below wr.heap.size wr w5:=by rw[<-aK];exact ((blAl).alloc (by simp) _).drew
    have hp:=DN.out wr.heap.size (wr.heap.size+1) w5 aG (by omega) (by omega) (by omega) (by rw[<-aK];simp;omega) (by rw[<-aK];simp) (by rw[<-aK];simp[go_sem]) (by rw[<-aK];simp[go_sem]) (by rw[<-aK];simp[go_sem]) (λj hj=>by rw[<-aK];simp[go_sem];exact HZ.out j hj) (λj=>by rw[<-aK];simp[go_sem]);rw[aK];obtain⟨BC,BD⟩:=hp;have gd:=jq BC;have pd:=jq BD;clear aK aG BC BD ir DN HZ Al Du HB aH d0 d1;generalize wr.heap.size+1=X0 at *;generalize wr.heap.size=X1 at *;have c50:=pd.out.b0;have c51:=pd.out.b1;go_wp2_with fail;clear c50 c51;go_loopw [7,51] (λvc i wr=>Og w M X1 X0 a (.slice A l.length c) (.slice (some ⟨X0,0,none⟩) l.length l.length) (gg a.data.toList l) B (Np.cN ⟨a.data.toList,l⟩) l vc i wr) (λ_ i _=>l.length - (intOf i).toNat)
    case atStart=>exact⟨0,⟨#[]⟩,jQ _,rfl,rfl,by decide,jq pd.out,jq (.inl rfl),jq (by rw[<-da.out];rfl)⟩
    case round=>
     obtain⟨k,sc,hk,rfl,rfl,fY,HK,vw,HE⟩:=hrel;have oG:=HK.out.l2;have b7:=HK.out.blt;have oz:=HK.out.slt;have qL:=HK.out.map.lt;have gw:=HK.out.below.size;by_cases ab:k<l.length
     ·have ae:=aQ ab;obtain⟨b,o,c',sn,dv,sv,hA,bZ,_,aD,cu,aY,aN,f0,f1,f2,f3,f4⟩:=dB (HD.out.keep aP HK.out.below) ae
      cases hA
      have dV:Hid (Np.al sn.data.toList=true):=jq (by rw[aD];exact HV.out _ (List.getElem_mem ab));have cV:Hid (B[k]?=some (Np.dC (Np.cN ⟨a.data.toList,l⟩) sc.data.toList sn.data.toList)/\B.drop (k+1)=Np.om (Np.cN ⟨a.data.toList,l⟩) (Np.dC (Np.cN ⟨a.data.toList,l⟩) sc.data.toList sn.data.toList) (l.drop (k+1))):=jq (by
       have h1:=HE.out;rw[sQ ab,Np.om,<-aD] at h1;refine⟨?_,?_⟩
       ·have:=List.getElem?_drop (xs:=B) (i:=k) (j:=0)
        rw[h1,Nat.add_zero] at this;exact this.symm
       ·have:=Qd (List.drop 1) h1
        rw[List.drop_drop] at this;simpa using this)
      obtain⟨s0,_,_,iR,oB⟩:=HK.out.row k [] (by
       rw[oQ (by rw[List.length_take];omega),List.length_take,fL.out,show k - min k l.length=0 by omega,List.getElem?_replicate,Qb (by omega)])
      have kP:Hid (∀ (wx:World) (s:ByteArray),Below wr.heap.size wr wx->s.size<=140737488355328->s.data.toList=Np.dC (Np.cN ⟨a.data.toList,l⟩) sc.data.toList sn.data.toList->LayK w M X1 X0 a (.slice (some ⟨b,o,none⟩) l.length c) (.slice (some ⟨X0,0,none⟩) l.length l.length) (gg a.data.toList l) (wx.setCell ⟨X0,k,none⟩ (.string s)) (B.take (k+1)++List.replicate (l.length - (k+1)) [])):=jq (λwx s hb ay hs=>by
       rw[<-Tv fL.out cV.out.1,<-hs];exact (HK.out.keep gd.out hb).store gd.out (by rw[List.length_append,List.length_take,List.length_replicate,fL.out];omega) s ay)
      have Hx:=jq HK.out.map;have fK:Hid (∀ o,Below wr.heap.size wr (wr.alloc o)):=jq (λo=>blAl);generalize hx:l[k]=x at *;clear hx ae;obtain⟨Ad,cd,rfl,_,_⟩:=ak aY;obtain⟨As,cs,rfl,_,_⟩:=ak aN;clear aD aY aN;have cj:=kNN k;have ck:(k:Int)<(l.length:Int):=by omega
      obtain⟨cb,eT⟩:=afZ (Np.cN ⟨a.data.toList,l⟩ sn.data.toList);have ml:=jq eT;have mq:Hid (((gg a.data.toList l).lookup sn.data.toList).getD (.bool false) = .bool cb):=jq (by rw[<-eT];exact (Ek _ _ l).1);clear eT;have uY:Hid (∀ wx,Below wr.heap.size wr wx->Sem.run prog (Instr.lookup 111 (.map (some M)) (.string sn) false) wx = .ok (.bool cb) wx):=jq (λwx hb=>by
       have:=Li (P:=prog) wx 111 9 4 underlying111 underlying9 M (gg a.data.toList l) (Hx.out.keep hb qL) sn.data.toList (.bool false) (by kernel_rfl)
       rw[mq.out] at this;exact this)
      by_cases hce:sc.data.toList = []
      ·obtain rfl:sc=⟨#[]⟩:=iC hce;have dU:Hid (cb=true->sn.data.toList=Np.dC (Np.cN ⟨a.data.toList,l⟩) [] sn.data.toList):=jq (λh=>by
        unfold Np.dC;rw[ml.out,h];simp)
       have fN:Hid (cb=false->[]=Np.dC (Np.cN ⟨a.data.toList,l⟩) [] sn.data.toList):=jq (λh=>by
        unfold Np.dC;rw[ml.out,h];simp)
       clear hce
       cases cb with
       | true=>
        have gh:∀ o,Sem.run prog (Instr.lookup 111 (.map (some M)) (.string sn) false) (wr.alloc o) = .ok (.bool true) (wr.alloc o):=λo=>uY.out _ (fK.out o);go_wp2_with fail;go_roundw
        case rel=>exact⟨k+1,sn,by omega,by go_num,rfl,cu,jq ((kP.out wr sn (vQ _ _) cu (dU.out (by simp))).keep gd.out (blAl)),jq (.inr dV.out),jq (by rw[dU.out (by simp)];exact cV.out.2)⟩
        ·simp[intOf]<;>omega
       | false=>
        have gh:∀ o,Sem.run prog (Instr.lookup 111 (.map (some M)) (.string sn) false) (wr.alloc o) = .ok (.bool false) (wr.alloc o):=λo=>uY.out _ (fK.out o);go_wp2_with fail;go_roundw
        case rel=>exact⟨k+1,⟨#[]⟩,by omega,by go_num,rfl,by decide,jq ((kP.out wr ⟨#[]⟩ (vQ _ _) (by decide) (fN.out (by simp))).keep gd.out (blAl)),jq (.inl rfl),jq (by rw[show (⟨#[]⟩:ByteArray).data.toList = [] from rfl,fN.out (by simp)];exact cV.out.2)⟩
        ·simp[intOf]<;>omega
      ·have avZ:(!sc.toList == [])=true:=by rw[dQ];simpa using hce
       have y9:(sc.toList == [])=false:=by rw[dQ];simpa using hce
       have j8:Hid (Np.al sc.data.toList=true):=jq (vw.out.resolve_left hce);have jZ:=jq hce;have hMs:M<wr.heap.size:=qL;clear hce;go_wp2_with fail;refine (zN sn sc cu fY _ dV.out j8.out).mono ?_;rintro e w2 ⟨rfl,aa⟩;have ah:=jq ((fK.out _).trans (aa.mono (by simp)));have dF:w2.cell? ⟨X1,2,none⟩=some (.slice (some ⟨X0,0,none⟩) l.length l.length):=aeK ah.out oG;have fH:w2.cell? ⟨X0,k,none⟩=some (.string s0):=aeK ah.out iR;have aO:=ah.out.size;have hf2:w2.frozen? ⟨X0,k,none⟩=false:=(ah.out.frozen (by dsimp only;omega)).trans oB;clear aa oG iR oB
       cases eV:Np.aX sn.data.toList sc.data.toList with
       | true=>
        have dU:Hid (sc.data.toList=Np.dC (Np.cN ⟨a.data.toList,l⟩) sc.data.toList sn.data.toList):=jq (by
         unfold Np.dC;simp[jZ.out,eV])
        clear eV;go_wp2_with fail;go_roundw
        case rel=>exact⟨k+1,sc,by omega,by go_num,rfl,fY,jq (kP.out _ sc ah.out fY dU.out),jq (.inr j8.out),jq (by rw[dU.out];exact cV.out.2)⟩
        ·simp[intOf]<;>omega
       | false=>
        have dU:Hid (cb=true->sn.data.toList=Np.dC (Np.cN ⟨a.data.toList,l⟩) sc.data.toList sn.data.toList):=jq (λh=>by
         unfold Np.dC;rw[ml.out,h];simp[eV,jZ.out])
        have fN:Hid (cb=false->[]=Np.dC (Np.cN ⟨a.data.toList,l⟩) sc.data.toList sn.data.toList):=jq (λh=>by
         unfold Np.dC;rw[ml.out,h];simp[eV,jZ.out])
        clear eV;have gh:=uY.out w2 ah.out
        cases cb with
        | true=>
         go_wp2_with fail;go_roundw
         case rel=>exact⟨k+1,sn,by omega,by go_num,rfl,cu,jq (kP.out _ sn ah.out cu (dU.out (by simp))),jq (.inr dV.out),jq (by rw[dU.out (by simp)];exact cV.out.2)⟩
         ·simp[intOf]<;>omega
        | false=>
         go_wp2_with fail;go_roundw
         case rel=>exact⟨k+1,⟨#[]⟩,by omega,by go_num,rfl,by decide,jq (kP.out _ ⟨#[]⟩ ah.out (by decide) (fN.out (by simp))),jq (.inl rfl),jq (by rw[show (⟨#[]⟩:ByteArray).data.toList = [] from rfl,fN.out (by simp)];exact cV.out.2)⟩
         ·simp[intOf]<;>omega
     ·have Cc:k=l.length:=by omega
      have kN:Hid (B.take k++List.replicate (l.length - k) []=B):=jq (by rw[Cc,Nat.sub_self,List.replicate_zero,List.append_nil,kQ (by rw[fL.out];exact bQ _)]);clear Cc;have g0:=HK.out.l0;have g1:=HK.out.l1;have r0:=HK.out.r0;have r1:=HK.out.r1;have r2:=HK.out.r2;have rf0:=HK.out.rf 0;have rf1:=HK.out.rf 1;have rf2:=HK.out.rf 2;go_wp2_with fail;obtain⟨w6,bC⟩:=afZ (((wr.setCell ⟨w.heap.size+1,0,none⟩ (.string a)).setCell ⟨w.heap.size+1,1,none⟩ (.slice A l.length c)).setCell ⟨w.heap.size+1,2,none⟩ (.slice (some ⟨X0,0,none⟩) l.length l.length));have q0:w6.cell? ⟨w.heap.size+1,0,none⟩=some (.string a):=by rw[<-bC];simp[go_sem,r0]
      have q1:w6.cell? ⟨w.heap.size+1,1,none⟩=some (.slice A l.length c):=by rw[<-bC];simp[go_sem,r1]
      have q2:w6.cell? ⟨w.heap.size+1,2,none⟩=some (.slice (some ⟨X0,0,none⟩) l.length l.length):=by rw[<-bC];simp[go_sem,r2]
      have h1:=gd.out.map;have h2:=gd.out.row;have cn:Hid (Below w.heap.size w w6):=jq (by rw[<-bC];exact ((HK.out.below.setCell (by simp) _).setCell (by simp) _).setCell (by simp) _);have Iq:Hid (SlR RTx 1 w6 w6.heap.size (.slice (some ⟨X0,0,none⟩) l.length l.length) B):=jq (by
       have h3:=HK.out.row;rw[kN.out] at h3;have h4:=((h3.other (p:=⟨w.heap.size+1,0,none⟩) (by simp;omega) (.string a)).other (p:=⟨w.heap.size+1,1,none⟩) (by simp;omega) (.slice A l.length c)).other (p:=⟨w.heap.size+1,2,none⟩) (by simp;omega) (.slice (some ⟨X0,0,none⟩) l.length l.length);rw[bC] at h4;have h5:=h4.slr (by rw[<-bC];simp;omega) (by rw[fL.out];omega);rw[fL.out] at h5;exact h5)
      rw[bC];clear bC r0 r1 r2 rf0 rf1 rf2 g0 g1 oG;refine bodyPost_ret (v:=.agg #[.string a,.slice A l.length c,.slice (some ⟨X0,0,none⟩) l.length l.length]) ?_ rfl ⟨⟨_,rfl,Iq.out⟩,cn.out⟩;simp[results,results200,go_sem,q0,q1,q2]
theorem s5{w:World}{B n c:Nat}{A:Option Addr}{xs:List (List UInt8)}(h:SlR RTx 1 w B (.slice A n c) xs){k:Nat}{x:List UInt8}(hx:xs[k]?=some x):∃ (b o:Nat) (s:ByteArray),A=some ⟨b,o,none⟩/\b<B/\s.data.toList=x/\s.size<=140737488355328/\w.cell? ⟨b,o+k,none⟩=some (.string s):=by
 obtain⟨A',c',hv,hc,_,he⟩:=h;simp only[Value.slice.injEq] at hv;obtain⟨rfl,_,_⟩:=hv;obtain⟨b,o,e,rfl,hb,_,hce,s,h1,h2,rfl⟩:=he k x hx;exact⟨b,o,s,rfl,hb,h1,h2,by have:=hce 0 _ rfl;simpa using this⟩
def Np.qj(l:List Np.Signed)(B:List (List UInt8)):Prop:=∀ (i:Nat) (x:Np.Signed) (b:List UInt8),l[i]?=some x->B[i]?=some b->Np.kH x.set b
def Np.Bd(l:List Np.Signed)(B:List (List UInt8)):Prop:=∀ (i:Nat) (x:Np.Signed) (b:List UInt8),l[i]?=some x->B[i]?=some b->b≠[]->x.set.type=2\/x.set.type=1->x.sigs = []
theorem OY{x:Np.DSet}{b:List UInt8}(hb:b = []):Np.kH x b↔x.type≠6:=by
 subst hb;exact⟨λh=>h.1 rfl,λh=>⟨λ_=>h,λh2=>absurd rfl h2,λh2=>absurd rfl h2⟩⟩
theorem OZ{x:Np.DSet}{b:List UInt8}(hb:b≠[])(he:b=x.name):Np.kH x b↔(x.type=2\/x.type=6\/x.type=8\/x.type=1):=
 ⟨λh=>h.2.1 hb he,λh=>⟨λh2=>absurd h2 hb,λ_ _=>h,λ_ h2=>absurd he h2⟩⟩
theorem O0{x:Np.DSet}{b:List UInt8}(hb:b≠[])(he:b≠x.name):Np.kH x b↔x.type=1:=
 ⟨λh=>h.2.2 hb he,λh=>⟨λh2=>absurd h2 hb,λ_ h2=>absurd h2 he,λ_ _=>h⟩⟩
theorem Zl(a:ByteArray)(v bv:Value)(l:List Np.Signed)(B:List (List UInt8))(jH:B.length=l.length)(w:World)(hd:SlR br 5 w w.heap.size v l)(gV:SlR RTx 1 w w.heap.size bv B) :
 Calls prog 202 #[.agg #[.string a,v,bv]] w (ahZ w.heap.size w (.bool (Np.yes (Np.qj l B)))):=by
 obtain⟨r,hr⟩:=afZ (Np.yes (Np.qj l B));rw[hr];have HR:=jq hr;have fL:=jq jH;have HD:=jq hd;have mR:=jq gV;obtain⟨A,c,rfl,bw,bT⟩:=ak hd;obtain⟨A2,c2,rfl,dE,dF⟩:=ak gV;rw[jH] at dE dF mR |-;clear hr hd gV jH;have HW:=blW w;go_enter func202,ntmps202;go_wp2_with fail;obtain⟨w1,am⟩:=afZ (w.alloc (.cells #[.string a,.slice A l.length c,.slice A2 l.length c2] 265));have c2':w1.cell? ⟨w.heap.size,2,none⟩=some (.slice A2 l.length c2):=by rw[<-am];simp[go_sem]
 have dG:w.heap.size<w1.heap.size:=by rw[<-am];simp
 have aF:Hid (Below w.heap.size w w1):=jq (by rw[<-am];exact HW.out _);rw[am];clear am;go_loopw [11] (λi wr=>∃ k:Nat,k<=l.length/\i = .int .i64 k/\Hid (Below w1.heap.size w1 wr)/\Hid (∀ j x b,j<k->l[j]?=some x->B[j]?=some b->Np.kH x.set b)) (λi _=>l.length - (intOf i).toNat)
 case atStart=>exact⟨0,jQ _,rfl,jq (vQ _ _),jq (λj x b hj=>by omega)⟩
 case round=>
  obtain⟨k,hk,rfl,HB,HA⟩:=hrel;have ay:=HB.out.size;have aH:=aeX aF HB.out;by_cases ab:k<l.length
  ·obtain⟨x,ae⟩:∃ x,l[k]?=some x:=⟨_,aQ ab⟩;obtain⟨bb,eD⟩:∃ bb,B[k]?=some bb:=⟨_,aQ (by rw[fL.out];omega)⟩;obtain⟨b,o,c',sn,dv,sv,hA,bZ,_,aD,cu,aY,aN,e0,e1,e2,e3,e4⟩:=dB (HD.out.keep aP aH.out) ae
   cases hA
   obtain⟨b2,o2,sb,rfl,yN,mD,KI,g0⟩:=s5 (mR.out.keep jt aH.out) eD;have HN:Hid (Np.kH x.set bb->∀ j x b,j<k+1->l[j]?=some x->B[j]?=some b->Np.kH x.set b):=jq (λh j x b hj hx hb=>by
    by_cases e:j=k
    ·subst e;rw[ae] at hx;rw[eD] at hb;cases hx;cases hb;exact h
    ·exact HA.out j x b (by omega) hx hb)
   have HF:Hid (¬ Np.kH x.set bb->r=false):=jq (λh=>by
    rw[<-HR.out];exact Np.aR λq=>h (q k _ _ ae eD))
   clear ae eD;obtain⟨Ad,cd,rfl,_,_⟩:=ak aY;obtain⟨As,cs,rfl,_,_⟩:=ak aN;have hcell:wr.cell? ⟨w.heap.size,2,none⟩=some (.slice (some ⟨b2,o2,none⟩) l.length c2):=aeK HB.out c2';have du:w.heap.size<wr.heap.size:=by omega
   have av:b<wr.heap.size:=by omega
   have aa:b2<wr.heap.size:=by omega
   have bA:Hid (∀ o,Below w1.heap.size w1 (wr.alloc o)):=jq (λo=>HB.out.alloc HB.out.size _);have o4:Hid (∀ o,Below w.heap.size w (wr.alloc o)):=jq (λo=>aH.out.alloc (by omega) _);have cj:=kNN k;have ck:(k:Int)<(l.length:Int):=by omega
   have aZ:=jq aD;have eO:=jq mD;obtain⟨ty,cw⟩:=afZ x.set.type;have fB:=jq cw;rw[cw] at e1;clear aD mD aY aN cw;by_cases dD:bb = []
   ·obtain rfl:sb=⟨#[]⟩:=iC (by rw[eO.out,dD]);have bW:=jq (OY (x:=x.set) dD);clear dD;by_cases h6:ty=6
    ·have HX:Hid (r=false):=jq (HF.out λh=>(bW.out.1 h) (fB.out.trans h6));subst h6;go_wp2_with fail;go_ret;exact⟨ag HX.out.symm,o4.out _⟩
    ·have HX:=jq (HN.out (bW.out.2 λh=>h6 (fB.out.symm.trans h)));have h6':(ty == 6)=false:=by simpa using h6
     clear h6;go_wp2_with fail;go_roundw
     case rel=>exact⟨k+1,by omega,by go_num,jq (bA.out _),jq HX.out⟩
     ·simp[intOf]<;>omega
   ·have y9:(sb.toList == [])=false:=by rw[dQ,eO.out];simpa using dD
    by_cases im:bb=x.set.name
    ·have JQ:(sb.toList == sn.toList)=true:=by rw[dQ,dQ,eO.out,aZ.out];simpa using im
     have bW:=jq (OZ (x:=x.set) dD im);clear dD im;by_cases ht:ty=2\/ty=6\/ty=8\/ty=1
     ·have HX:=jq (HN.out (bW.out.2 (by rw[fB.out];exact ht)));rcases ht with rfl | rfl | rfl | rfl
      all_goals
       go_wp2_with fail;go_roundw
       case rel=>exact⟨k+1,by omega,by go_num,jq (bA.out _),jq HX.out⟩
       ·simp[intOf]<;>omega
     ·have HX:Hid (r=false):=jq (HF.out λh=>ht (by have:=bW.out.1 h;rwa [fB.out] at this));have t1:(ty != 2)=true:=by simp;omega
      have t2:(ty != 6)=true:=by simp;omega
      have t3:(ty != 8)=true:=by simp;omega
      have t4:(ty != 1)=true:=by simp;omega
      clear ht;go_wp2_with fail;go_ret;exact⟨ag HX.out.symm,o4.out _⟩
    ·have JQ:(sb.toList == sn.toList)=false:=by rw[dQ,dQ,eO.out,aZ.out];simpa using im
     have bW:=jq (O0 (x:=x.set) dD im);clear dD im;by_cases ht:ty=1
     ·have HX:=jq (HN.out (bW.out.2 (by rw[fB.out];exact ht)));subst ht;go_wp2_with fail;go_roundw
      case rel=>exact⟨k+1,by omega,by go_num,jq (bA.out _),jq HX.out⟩
      ·simp[intOf]<;>omega
     ·have HX:Hid (r=false):=jq (HF.out λh=>ht (by have:=bW.out.1 h;rwa [fB.out] at this));have t4:(ty != 1)=true:=by simpa using ht
      clear ht;go_wp2_with fail;go_ret;exact⟨ag HX.out.symm,o4.out _⟩
  ·go_wp2_with fail;go_ret;refine⟨ag ?_,aH.out⟩;rw[<-HR.out];exact (Np.bV λi x b hx hb=>HA.out i x b (by have:=(cQ.1 hx).1;omega) hx hb).symm
def Np.zU(l:List Np.Signed)(k:Nat)(x:Np.Signed):Prop:=x.set.type=3->(∀ p,0<k->l[k - 1]?=some p->p.set.name≠x.set.name)/\∀ n,l[k+1]?=some n->n.set.name=x.set.name->n.set.type=8
def Np.zV(l:List Np.Signed):Prop:=∀ k x,l[k]?=some x->Np.zU l k x
theorem Yg(a:ByteArray)(v:Value)(A2:Option Addr)(n2 c2:Nat)(l:List Np.Signed)(bY:l.length<=20000)(w:World)(hd:SlR br 5 w w.heap.size v l) :
 Calls prog 201 #[.agg #[.string a,v,.slice A2 n2 c2]] w (ahZ w.heap.size w (.bool (Np.yes (Np.zV l)))):=by
 obtain⟨r,hr⟩:=afZ (Np.yes (Np.zV l));rw[hr];have HR:=jq hr;have HD:=jq hd;obtain⟨A,c,rfl,bw,bT⟩:=ak hd;clear hr hd;have HW:=blW w;go_enter func201,ntmps201;go_wp2_with fail;obtain⟨w1,am⟩:=afZ (w.alloc (.cells #[.string a,.slice A l.length c,.slice A2 n2 c2] 265));have c2':w1.cell? ⟨w.heap.size,1,none⟩=some (.slice A l.length c):=by rw[<-am];simp[go_sem]
 have dG:w.heap.size<w1.heap.size:=by rw[<-am];simp
 have aF:Hid (Below w.heap.size w w1):=jq (by rw[<-am];exact HW.out _);rw[am];clear am;go_loopw [10] (λi wr=>∃ k:Nat,k<=l.length/\i = .int .i64 k/\Hid (Below w1.heap.size w1 wr)/\Hid (∀ j x,j<k->l[j]?=some x->Np.zU l j x)) (λi _=>l.length - (intOf i).toNat)
 case atStart=>exact⟨0,jQ _,rfl,jq (vQ _ _),jq (λj x hj=>by omega)⟩
 case round=>
  obtain⟨k,hk,rfl,HB,HA⟩:=hrel;have ay:=HB.out.size;have aH:=aeX aF HB.out;by_cases ab:k<l.length
  ·obtain⟨x,ae⟩:∃ x,l[k]?=some x:=⟨_,aQ ab⟩;obtain⟨b,o,c',sn,dv,sv,hA,bZ,_,aD,cu,aY,aN,e0,e1,e2,e3,e4⟩:=dB (HD.out.keep aP aH.out) ae
   cases hA
   have HN:Hid (Np.zU l k x->∀ j x,j<k+1->l[j]?=some x->Np.zU l j x):=jq (λh j y hj hy=>by
    by_cases e:j=k
    ·subst e;rw[ae] at hy;cases hy;exact h
    ·exact HA.out j y (by omega) hy)
   have HF:Hid (¬ Np.zU l k x->r=false):=jq (λh=>by
    rw[<-HR.out];exact Np.aR λq=>h (q k x ae))
   have Nk:Hid (∀ (m:Nat) (y:Np.Signed),l[m]?=some y->∃ (sy:ByteArray),sy.data.toList=y.set.name/\wr.cell? ⟨b,o+m * 5,none⟩=some (.string sy)/\wr.cell? ⟨b,o+m * 5+1,none⟩=some (.int .i64 y.set.type)):=jq (λm y hy=>by
    obtain⟨b9,o9,c9,sy,dv9,sv9,hA,_,_,kw,_,_,_,q0,q1,_⟩:=dB (HD.out.keep aP aH.out) hy;simp only[Value.slice.injEq,Option.some.injEq,Addr.mk.injEq,and_true,true_and] at hA;obtain⟨⟨rfl,rfl⟩,-⟩:=hA;exact⟨sy,kw,q0,q1⟩)
   clear ae;obtain⟨Ad,cd,rfl,_,_⟩:=ak aY;obtain⟨As,cs,rfl,_,_⟩:=ak aN;have hcell:wr.cell? ⟨w.heap.size,1,none⟩=some (.slice (some ⟨b,o,none⟩) l.length c):=aeK HB.out c2';have du:w.heap.size<wr.heap.size:=by omega
   have av:b<wr.heap.size:=by omega
   have bA:Hid (∀ o,Below w1.heap.size w1 (wr.alloc o)):=jq (λo=>HB.out.alloc HB.out.size _);have o4:Hid (∀ o,Below w.heap.size w (wr.alloc o)):=jq (λo=>aH.out.alloc (by omega) _);have cj:=kNN k;have ck:(k:Int)<(l.length:Int):=by omega
   have aZ:=jq aD;obtain⟨ty,cw⟩:=afZ x.set.type;have fB:=jq cw;rw[cw] at e1;clear aD aY aN cw;by_cases h3:ty=3
   ·obtain⟨w2,aj⟩:=afZ (wr.alloc (.cells #[.string sn,.int .i64 ty,.int .i64 x.set.life,.slice Ad x.set.data.length cd,.slice As x.sigs.length cs] 42));subst h3;have t3:((3:Int) != 3)=false:=by decide
    have JP:∃ q:Bool,Hid (q=true↔∃ p,0<k/\l[k - 1]?=some p/\p.set.name=x.set.name)/\((k=0/\q=false)\/∃ (m:Nat) (y:Np.Signed) (sy:ByteArray),k=m+1/\wr.cell? ⟨b,o+m * 5,none⟩=some (.string sy)/\(sy.toList == sn.toList)=q):=by
     by_cases gH:k=0
     ·exact⟨false,jq ⟨λh=>(by cases h),λ⟨p,h,_⟩=>(by omega)⟩,.inl ⟨gH,rfl⟩⟩
     ·obtain⟨m,rfl⟩:∃ m,k=m+1:=⟨k - 1,by omega⟩;obtain⟨y,hy⟩:∃ y,l[m]?=some y:=⟨_,aQ (by omega)⟩;obtain⟨sy,kw,q0,q1⟩:=Nk.out m y hy;refine⟨_,jq ?_,.inr ⟨m,y,sy,rfl,q0,rfl⟩⟩;rw[dQ,dQ,kw,aZ.out,beq_iff_eq];constructor
      ·intro h;exact⟨y,by omega,by simpa using hy,h⟩
      ·rintro⟨p,_,hp,h⟩;rw[show m+1 - 1=m by omega,hy] at hp
       cases hp;exact h
    have alZ:∃ q1 q2:Bool,Hid (∀ n,l[k+1]?=some n->(q1=true↔n.set.name=x.set.name)/\(q2=true↔n.set.type≠8))/\((l.length=k+1/\q1=false)\/∃ (y:Np.Signed) (sy:ByteArray) (ny:Int),k+1<l.length/\wr.cell? ⟨b,o+(k+1) * 5,none⟩=some (.string sy)/\wr.cell? ⟨b,o+(k+1) * 5+1,none⟩=some (.int .i64 ny)/\(sy.toList == sn.toList)=q1/\(ny != 8)=q2):=by
     by_cases nB:l.length=k+1
     ·exact⟨false,false,jq (λn hn=>by have:=(cQ.1 hn).1;omega),.inl ⟨nB,rfl⟩⟩
     ·obtain⟨y,hy⟩:∃ y,l[k+1]?=some y:=⟨_,aQ (by omega)⟩;obtain⟨sy,kw,q0,q1⟩:=Nk.out (k+1) y hy;refine⟨_,_,jq (λn hn=>?_),.inr ⟨y,sy,y.set.type,by omega,q0,q1,rfl,rfl⟩⟩;rw[hy] at hn;cases hn;rw[dQ,dQ,kw,aZ.out,beq_iff_eq];exact⟨Iff.rfl,by simp⟩
    clear aj w2;obtain⟨qb,rB,Cs⟩:=JP;obtain⟨q1,q2,DQ,kp⟩:=alZ;have Ma:Hid (∀ o n,Below w1.heap.size w1 ((wr.alloc o).drewN n)):=jq (λo n=>below_drewN (HB.out.alloc HB.out.size _) _);have Gu:Hid (∀ o n,Below w.heap.size w ((wr.alloc o).drewN n)):=jq (λo n=>below_drewN (aH.out.alloc (by omega) _) _);have wK:∀ o' n,(wr.alloc o').drewN n=(wr.alloc o').drewN n:=λ_ _=>rfl;clear wK
    cases qb with
    | true=>
     have HX:Hid (r=false):=jq (HF.out λh=>by
      obtain⟨p,sB,hp,he⟩:=rB.out.1 rfl;exact (h fB.out).1 p sB hp he)
     rcases Cs with ⟨_,h⟩ | ⟨m,y,sy,l4,g0,sE⟩
     ·cases h
     ·have gY:decide ((0:Int)<(k:Int))=true:=by simp;omega
      have jO:decide (0<k)=true:=by simp;omega
      have KS:IntKind.i64.wrap ((k:Int) - 1)=(m:Int):=by rw[IntWalk.i64_in _ (by omega)];omega
      have Fm:(k:Int) - 1=(m:Int):=by omega
      have ki:(0:Int)<=(m:Int):=by omega
      have l3:(m:Int)<(l.length:Int):=by omega
      clear l4;go_wp2_with fail;go_quiet (fail);go_wp2_with fail;go_ret;exact⟨ag HX.out.symm,Gu.out _ _⟩
    | false=>
     have aw:Hid (∀ p,0<k->l[k - 1]?=some p->p.set.name≠x.set.name):=jq (λp h0 hp he=>by
      have:=rB.out.2 ⟨p,h0,hp,he⟩
      cases this)
     rcases Cs with ⟨gH,_⟩ | ⟨m,y,sy,l4,g0,sE⟩
     ·have gY:decide ((0:Int)<(k:Int))=false:=by simp;omega
      have jO:decide (0<k)=false:=by simp;omega
      clear gH;go_wp2_with fail;go_quiet (fail);go_wp2_with fail;obtain⟨w4,cG⟩:=afZ ((wr.alloc (.cells #[.string sn,.int .i64 3,.int .i64 x.set.life,.slice Ad x.set.data.length cd,.slice As x.sigs.length cs] 42)).drewN nq);rw[cG];have vx:Hid (Below w1.heap.size w1 w4):=jq (by rw[<-cG];exact Ma.out _ _);have IB:Hid (Below w.heap.size w w4):=jq (by rw[<-cG];exact Gu.out _ _);have ar:Below wr.heap.size wr w4:=by rw[<-cG];exact below_drewN (blAl) _
      have n4:w4.cell? ⟨wr.heap.size,0,none⟩=some (.string sn):=by rw[<-cG];simp[go_sem]
      have EO:w4.cell? ⟨w.heap.size,1,none⟩=some (.slice (some ⟨b,o,none⟩) l.length c):=aeK ar hcell;rcases kp with ⟨nB,rfl⟩ | ⟨y',sy',ny,nB,k0,k1,wV,l6⟩
      ·have HX:=jq (HN.out (λ_=>⟨aw.out,λn hn=>by have:=(cQ.1 hn).1;omega⟩));have aG:decide ((k:Int)+1<(l.length:Int))=false:=by simp;omega
       have dp:decide (k+1<l.length)=false:=by simp;omega
       clear nB;clear ar cG;go_wp2_with fail;go_quiet (fail);go_wp2_with fail;go_roundw
       case rel=>exact⟨k+1,by omega,by go_num,jq (below_drewN vx.out _),jq HX.out⟩
       ·simp[intOf]<;>omega
      ·have k04:w4.cell? ⟨b,o+(k+1) * 5,none⟩=some (.string sy'):=aeK ar k0;have k14:w4.cell? ⟨b,o+(k+1) * 5+1,none⟩=some (.int .i64 ny):=aeK ar k1;obtain⟨j,hj⟩:=afZ (k+1);have ha:IntKind.i64.wrap ((k:Int)+1)=(j:Int):=by rw[IntWalk.i64_in _ (by omega)];omega
       have ha2:(k:Int)+1=(j:Int):=by omega
       have aG:decide ((j:Int)<(l.length:Int))=true:=by simp;omega
       have dp:decide (j<l.length)=true:=by simp;omega
       have jg:(0:Int)<=(j:Int):=by omega
       have qR:(j:Int)<(l.length:Int):=by omega
       rw[hj] at k04 k14 DQ;have HJ:=jq hj;have aT:b<w4.heap.size:=by have:=ar.size;omega
       clear ar cG k0 k1 hj nB;obtain⟨n,hn⟩:∃ n,l[j]?=some n:=⟨_,aQ (by omega)⟩;have nZ:=jq (DQ.out n hn);have iF:=jq hn;clear hn
       cases q1 with
       | false=>
        have HX:=jq (HN.out (λ_=>⟨aw.out,λn' hn' he=>by
         rw[HJ.out,iF.out] at hn';cases hn'
         have:=nZ.out.1.2 he
         cases this⟩))
        go_wp2_with fail;go_quiet (fail);go_wp2_with fail;go_roundw
        case rel=>exact⟨k+1,by omega,by go_num,jq (below_drewN vx.out _),jq HX.out⟩
        ·simp[intOf]<;>omega
       | true=>
        cases q2 with
        | false=>
         have HX:=jq (HN.out (λ_=>⟨aw.out,λn' hn' _=>by
          rw[HJ.out,iF.out] at hn';cases hn';refine Decidable.not_not.1 λh8=>?_
          have:=nZ.out.2.2 h8
          cases this⟩))
         go_wp2_with fail;go_quiet (fail);go_wp2_with fail;go_roundw
         case rel=>exact⟨k+1,by omega,by go_num,jq (below_drewN vx.out _),jq HX.out⟩
         ·simp[intOf]<;>omega
        | true=>
         have HX:Hid (r=false):=jq (HF.out λh=>(nZ.out.2.1 rfl) ((h fB.out).2 n (by rw[HJ.out];exact iF.out) (nZ.out.1.1 rfl)));go_wp2_with fail;go_quiet (fail);go_wp2_with fail;go_ret;exact⟨ag HX.out.symm,below_drewN IB.out _⟩
     ·have gY:decide ((0:Int)<(k:Int))=true:=by simp;omega
      have jO:decide (0<k)=true:=by simp;omega
      have KS:IntKind.i64.wrap ((k:Int) - 1)=(m:Int):=by rw[IntWalk.i64_in _ (by omega)];omega
      have Fm:(k:Int) - 1=(m:Int):=by omega
      have ki:(0:Int)<=(m:Int):=by omega
      have l3:(m:Int)<(l.length:Int):=by omega
      clear l4;go_wp2_with fail;go_quiet (fail);go_wp2_with fail;obtain⟨w4,cG⟩:=afZ ((wr.alloc (.cells #[.string sn,.int .i64 3,.int .i64 x.set.life,.slice Ad x.set.data.length cd,.slice As x.sigs.length cs] 42)).drewN nq);rw[cG];have vx:Hid (Below w1.heap.size w1 w4):=jq (by rw[<-cG];exact Ma.out _ _);have IB:Hid (Below w.heap.size w w4):=jq (by rw[<-cG];exact Gu.out _ _);have ar:Below wr.heap.size wr w4:=by rw[<-cG];exact below_drewN (blAl) _
      have n4:w4.cell? ⟨wr.heap.size,0,none⟩=some (.string sn):=by rw[<-cG];simp[go_sem]
      have EO:w4.cell? ⟨w.heap.size,1,none⟩=some (.slice (some ⟨b,o,none⟩) l.length c):=aeK ar hcell;rcases kp with ⟨nB,rfl⟩ | ⟨y',sy',ny,nB,k0,k1,wV,l6⟩
      ·have HX:=jq (HN.out (λ_=>⟨aw.out,λn hn=>by have:=(cQ.1 hn).1;omega⟩));have aG:decide ((k:Int)+1<(l.length:Int))=false:=by simp;omega
       have dp:decide (k+1<l.length)=false:=by simp;omega
       clear nB;clear ar cG;go_wp2_with fail;go_quiet (fail);go_wp2_with fail;go_roundw
       case rel=>exact⟨k+1,by omega,by go_num,jq (below_drewN vx.out _),jq HX.out⟩
       ·simp[intOf]<;>omega
      ·have k04:w4.cell? ⟨b,o+(k+1) * 5,none⟩=some (.string sy'):=aeK ar k0;have k14:w4.cell? ⟨b,o+(k+1) * 5+1,none⟩=some (.int .i64 ny):=aeK ar k1;obtain⟨j,hj⟩:=afZ (k+1);have ha:IntKind.i64.wrap ((k:Int)+1)=(j:Int):=by rw[IntWalk.i64_in _ (by omega)];omega
       have ha2:(k:Int)+1=(j:Int):=by omega
       have aG:decide ((j:Int)<(l.length:Int))=true:=by simp;omega
       have dp:decide (j<l.length)=true:=by simp;omega
       have jg:(0:Int)<=(j:Int):=by omega
       have qR:(j:Int)<(l.length:Int):=by omega
       rw[hj] at k04 k14 DQ;have HJ:=jq hj;have aT:b<w4.heap.size:=by have:=ar.size;omega
       clear ar cG k0 k1 hj nB;obtain⟨n,hn⟩:∃ n,l[j]?=some n:=⟨_,aQ (by omega)⟩;have nZ:=jq (DQ.out n hn);have iF:=jq hn;clear hn
       cases q1 with
       | false=>
        have HX:=jq (HN.out (λ_=>⟨aw.out,λn' hn' he=>by
         rw[HJ.out,iF.out] at hn';cases hn'
         have:=nZ.out.1.2 he
         cases this⟩))
        go_wp2_with fail;go_quiet (fail);go_wp2_with fail;go_roundw
        case rel=>exact⟨k+1,by omega,by go_num,jq (below_drewN vx.out _),jq HX.out⟩
        ·simp[intOf]<;>omega
       | true=>
        cases q2 with
        | false=>
         have HX:=jq (HN.out (λ_=>⟨aw.out,λn' hn' _=>by
          rw[HJ.out,iF.out] at hn';cases hn';refine Decidable.not_not.1 λh8=>?_
          have:=nZ.out.2.2 h8
          cases this⟩))
         go_wp2_with fail;go_quiet (fail);go_wp2_with fail;go_roundw
         case rel=>exact⟨k+1,by omega,by go_num,jq (below_drewN vx.out _),jq HX.out⟩
         ·simp[intOf]<;>omega
        | true=>
         have HX:Hid (r=false):=jq (HF.out λh=>(nZ.out.2.1 rfl) ((h fB.out).2 n (by rw[HJ.out];exact iF.out) (nZ.out.1.1 rfl)));go_wp2_with fail;go_quiet (fail);go_wp2_with fail;go_ret;exact⟨ag HX.out.symm,below_drewN IB.out _⟩
   ·have HX:=jq (HN.out (λh=>absurd (fB.out.symm.trans h) h3));have h3':(ty != 3)=true:=by simpa using h3
    clear h3;go_wp2_with fail;go_roundw
    case rel=>exact⟨k+1,by omega,by go_num,jq (bA.out _),jq HX.out⟩
    ·simp[intOf]<;>omega
  ·go_wp2_with fail;go_ret;refine⟨ag ?_,aH.out⟩;rw[<-HR.out];exact (Np.bV λi x hx=>HA.out i x (by have:=(cQ.1 hx).1;omega) hx).symm
end
section
open Go.RowKit Go.MapKept
def mW(r:Nat)(kvs:List (Int×Value))(w:World):Prop:=∃ es c,w.heap[r]?=some (.map es c)/\es.toList.map (λe=>(e.key,e.val))=kvs.map λp=>(Value.int .i64 p.1,p.2)
theorem mW.lt{r:Nat}{kvs:List (Int×Value)}{w:World}(h:mW r kvs w):r<w.heap.size:=by
 obtain⟨es,c,h,_⟩:=h;exact (eQ.1 h).1
theorem mW.keep{r:Nat}{kvs:List (Int×Value)}{w w':World}{n:Nat}(h:mW r kvs w)(hb:Below n w w')(hn:r<n):mW r kvs w':=by
 obtain⟨es,c,h,h2⟩:=h;exact⟨es,c,(hb.block r hn).trans h,h2⟩
theorem mW.made(w:World):mW w.heap.size [] (w.alloc (.map #[] 0)):=⟨#[],0,heap_alloc_new _ _,rfl⟩
theorem Pg(x:Int):∀ (es:List MapEntry) (kvs:List (Int×Value)) (i:Nat),es.map (λe=>(e.key,e.val))=kvs.map (λp=>(Value.int .i64 p.1,p.2))->
 (∀ v,kvs.lookup x=some v->∃ j,Instr.findNow (.int .i64) (.int .i64 x) es i=some (some (j,v)))/\(kvs.lookup x=none->Instr.findNow (.int .i64) (.int .i64 x) es i=some none):=by
 intro es
 induction es with
 | nil=>
  intro kvs i h
  cases kvs with
  | nil=>exact⟨λv hv=>by simp at hv,λ_=>rfl⟩
  | cons=>simp at h
 | cons e es ih=>
  intro kvs i h
  cases kvs with
  | nil=>simp at h
  | cons p kvs=>
   obtain⟨y,u⟩:=p;simp only[List.map_cons,List.cons.injEq,Prod.mk.injEq] at h;obtain⟨⟨h1,h2⟩,h3⟩:=h;have hs:Instr.sameNow (.int .i64) (.int .i64 x) e.key=some (x == y):=by rw[h1];simp[Instr.sameNow]
   by_cases cH:x=y
   ·subst cH;have hb:(x == x)=true:=by simp
    rw[hb] at hs;refine⟨λv hv=>⟨i,?_⟩,λhv=>?_⟩
    ·rw[List.lookup_cons_self] at hv;simp only[Instr.findNow,hs]
     cases hv
     rw[h2]
    ·rw[List.lookup_cons_self] at hv;cases hv
   ·have hb:(x == y)=false:=by simpa using cH
    rw[hb] at hs;have hl:((y,u)::kvs).lookup x=kvs.lookup x:=by rw[List.lookup_cons,hb]
    rw[hl];obtain⟨i1,i2⟩:=ih kvs (i+1) h3;refine⟨λv hv=>?_,λhv=>?_⟩
    ·obtain⟨j,hj⟩:=i1 v hv;exact⟨j,by simp only[Instr.findNow,hs];exact hj⟩
    ·simp only[Instr.findNow,hs];exact i2 hv
section
variable {P:Program} {ops:Array Oper} {rest:List Oper} {o:Oper} {a:Act} {Q:Exit->Act->World->Prop}
theorem btY(w:World)(hg:o.guard=none)(m x v:Operand)(t:TypeId)(iP:o.op=Op.mapUpdate t m x v)(kt et:TypeId)(ht:P.underlying t=some (.map kt et))(hk:P.underlying kt=some (.int .i64))
 (r:Nat) (kvs:List (Int×Value)) (hm:a.eval m = .map (some r)) (hr:mW r kvs w) (key:Int) (hx:a.eval x = .int .i64 key) (val:Value) (hv:a.eval v=val) (fG:kvs.lookup key=none)
 (hK:∀ w',mW r (kvs ++ [(key,val)]) w'->Turned r w w'->wpList P ops Q rest (a.put o.dst undef) w'):wpList P ops Q (o::rest) a w:=by
 obtain⟨es,c,hr,he⟩:=hr;have hf:=(Pg key es.toList kvs 0 he).2 fG;refine wpList_plain hg λK' hK'=>?_;have hc:(Instr.checkKey false 10000 kt (.int .i64 key)).run P w = .ok () w:=MapKept.run_checkKey (k:=.int .i64 key) hk (by simp[MapKept.IsKey]) false 9999;have cY:(Instr.mapUpdate t (.map (some r)) (.int .i64 key) val).run P w = .ok () { w with heap:=w.heap.setIfInBounds r (.map (es.push { key:=.int .i64 key,val:=val,born:=c }) (c+1)) }:=by
  simp[Instr.mapUpdate,run_underlying ht,MapKept.run_getObj_map hr,hc,MapKept.run_findKey hk hf,MapKept.run_setObj_map _ hr,Result.andThen]
 unfold Oper.wp;simp[execOp,iP,hm,hx,hv,cY,Result.andThen];have hl:r<w.heap.size:=(eQ.1 hr).1;refine hK' _ _ (hK _ ⟨_,_,by simp[hl];exact⟨rfl,rfl⟩,by simp[he]⟩ ⟨rfl,rfl,rfl,by simp,λi hi=>by simp[Ne.symm hi]⟩)
theorem a9Y(w:World)(t kt et:TypeId)(ht:P.underlying t=some (.map kt et))(hk:P.underlying kt=some (.int .i64))(r:Nat)(kvs:List (Int×Value))(hr:mW r kvs w)(key:Int)(z:Value)(hz:(zeroValue et).run P w = .ok z w) :
 (Instr.lookup t (.map (some r)) (.int .i64 key) false).run P w = .ok ((kvs.lookup key).getD z) w:=by
 obtain⟨es,c,hr,he⟩:=hr;have hf:=Pg key es.toList kvs 0 he;have hc:∀ b,(Instr.checkKey b 10000 kt (.int .i64 key)).run P w = .ok () w:=λb=>MapKept.run_checkKey (k:=.int .i64 key) hk (by simp[MapKept.IsKey]) b 9999
 cases hl:kvs.lookup key with
 | none=>simp[Instr.lookup,run_underlying ht,MapKept.run_getObj_map hr,hc,MapKept.run_findKey hk (hf.2 hl),Result.andThen,hz]
 | some v=>
  obtain⟨j,hj⟩:=hf.1 v hl;simp[Instr.lookup,run_underlying ht,MapKept.run_getObj_map hr,hc,MapKept.run_findKey hk hj,Result.andThen]
end
end
section
open Go.RowKit
theorem beX(a:ByteArray)(v bv:Value)(l:List Np.Signed)(B:List (List UInt8))(jH:B.length=l.length)(w:World)(hd:SlR br 5 w w.heap.size v l)(gV:SlR RTx 1 w w.heap.size bv B) :
 Calls prog 203 #[.agg #[.string a,v,bv]] w (ahZ w.heap.size w (.bool (Np.yes (Np.Bd l B)))):=by
 obtain⟨r,hr⟩:=afZ (Np.yes (Np.Bd l B));rw[hr];have HR:=jq hr;have fL:=jq jH;have HD:=jq hd;have mR:=jq gV;obtain⟨A,c,rfl,bw,bT⟩:=ak hd;obtain⟨A2,c2,rfl,dE,dF⟩:=ak gV;rw[jH] at dE dF mR |-;clear hr hd gV jH;have HW:=blW w;go_enter func203,ntmps203;go_wp2_with fail;obtain⟨w1,am⟩:=afZ (w.alloc (.cells #[.string a,.slice A l.length c,.slice A2 l.length c2] 265));have c2':w1.cell? ⟨w.heap.size,2,none⟩=some (.slice A2 l.length c2):=by rw[<-am];simp[go_sem]
 have dG:w.heap.size<w1.heap.size:=by rw[<-am];simp
 have aF:Hid (Below w.heap.size w w1):=jq (by rw[<-am];exact HW.out _);rw[am];clear am;go_loopw [11] (λi wr=>∃ k:Nat,k<=l.length/\i = .int .i64 k/\Hid (Below w1.heap.size w1 wr)/\Hid (∀ j x b,j<k->l[j]?=some x->B[j]?=some b->(b≠[]->x.set.type=2\/x.set.type=1->x.sigs = []))) (λi _=>l.length - (intOf i).toNat)
 case atStart=>exact⟨0,jQ _,rfl,jq (vQ _ _),jq (λj x b hj=>by omega)⟩
 case round=>
  obtain⟨k,hk,rfl,HB,HA⟩:=hrel;have ay:=HB.out.size;have aH:=aeX aF HB.out;by_cases ab:k<l.length
  ·obtain⟨x,ae⟩:∃ x,l[k]?=some x:=⟨_,aQ ab⟩;obtain⟨bb,eD⟩:∃ bb,B[k]?=some bb:=⟨_,aQ (by rw[fL.out];omega)⟩;obtain⟨b,o,c',sn,dv,sv,hA,bZ,_,aD,cu,aY,aN,e0,e1,e2,e3,e4⟩:=dB (HD.out.keep aP aH.out) ae
   cases hA
   obtain⟨b2,o2,sb,rfl,yN,mD,KI,g0⟩:=s5 (mR.out.keep jt aH.out) eD;have HN:Hid ((bb≠[]->x.set.type=2\/x.set.type=1->x.sigs = [])->∀ j x b,j<k+1->l[j]?=some x->B[j]?=some b->(b≠[]->x.set.type=2\/x.set.type=1->x.sigs = [])):=jq (λh j x b hj hx hb=>by
    by_cases e:j=k
    ·subst e;rw[ae] at hx;rw[eD] at hb;cases hx;cases hb;exact h
    ·exact HA.out j x b (by omega) hx hb)
   have HF:Hid (¬ (bb≠[]->x.set.type=2\/x.set.type=1->x.sigs = [])->r=false):=jq (λh=>by
    rw[<-HR.out];exact Np.aR λq=>h (q k _ _ ae eD))
   clear ae eD;obtain⟨Ad,cd,rfl,_,_⟩:=ak aY;obtain⟨As,cs,rfl,_,_⟩:=ak aN;have hcell:wr.cell? ⟨w.heap.size,2,none⟩=some (.slice (some ⟨b2,o2,none⟩) l.length c2):=aeK HB.out c2';have du:w.heap.size<wr.heap.size:=by omega
   have av:b<wr.heap.size:=by omega
   have aa:b2<wr.heap.size:=by omega
   have bA:Hid (∀ o,Below w1.heap.size w1 (wr.alloc o)):=jq (λo=>HB.out.alloc HB.out.size _);have o4:Hid (∀ o,Below w.heap.size w (wr.alloc o)):=jq (λo=>aH.out.alloc (by omega) _);have cj:=kNN k;have ck:(k:Int)<(l.length:Int):=by omega
   have aZ:=jq aD;have eO:=jq mD;obtain⟨ty,cw⟩:=afZ x.set.type;have fB:=jq cw;rw[cw] at e1;clear aD mD aY aN cw;by_cases dD:bb = []
   ·obtain rfl:sb=⟨#[]⟩:=iC (by rw[eO.out,dD]);have HX:=jq (HN.out (λh=>absurd dD h));clear dD;go_wp2_with fail;go_roundw
    case rel=>exact⟨k+1,by omega,by go_num,jq (bA.out _),jq HX.out⟩
    ·simp[intOf]<;>omega
   ·have y9:(sb.toList == [])=false:=by rw[dQ,eO.out];simpa using dD
    have Gx:=jq dD;clear dD;by_cases ht:ty=2\/ty=1
    ·by_cases t8:x.sigs.length=0
     ·have HX:=jq (HN.out (λ_ _=>rQ t8));rw[t8] at e4;clear t8;rcases ht with rfl | rfl
      all_goals
       go_wp2_with fail;go_roundw
       case rel=>exact⟨k+1,by omega,by go_num,jq (bA.out _),jq HX.out⟩
       ·simp[intOf]<;>omega
     ·have HX:Hid (r=false):=jq (HF.out λh=>t8 (by rw[h Gx.out (by rw[fB.out];exact ht)];rfl));have awJ:0<x.sigs.length:=by omega
      have bLX:(0:Int)<(x.sigs.length:Int):=by omega
      clear t8;rcases ht with rfl | rfl
      all_goals
       go_wp2_with fail;go_ret;exact⟨ag HX.out.symm,o4.out _⟩
    ·have HX:=jq (HN.out (λ_ h=>absurd (by rw[fB.out] at h;exact h) ht));have t1:(ty == 2)=false:=by simp;omega
     have t2:(ty == 1)=false:=by simp;omega
     clear ht;go_wp2_with fail;go_roundw
     case rel=>exact⟨k+1,by omega,by go_num,jq (bA.out _),jq HX.out⟩
     ·simp[intOf]<;>omega
  ·go_wp2_with fail;go_ret;refine⟨ag ?_,aH.out⟩;rw[<-HR.out];exact (Np.bV λi x b hx hb=>HA.out i x b (by have:=(cQ.1 hx).1;omega) hx hb).symm
theorem abY(a:ByteArray)(v:Value)(A2:Option Addr)(n2 c2:Nat)(l:List Np.Signed)(w:World)(hd:SlR br 5 w w.heap.size v l) :
 Calls prog 204 #[.agg #[.string a,v,.slice A2 n2 c2]] w (ahZ w.heap.size w (.bool (Np.yes (∀ x∈l,Np.go a.data.toList x.sigs)))):=by
 obtain⟨r,hr⟩:=afZ (Np.yes (∀ x∈l,Np.go a.data.toList x.sigs));rw[hr];have HR:=jq hr;have HD:=jq hd;obtain⟨A,c,rfl,bw,bT⟩:=ak hd;clear hr hd;have HW:=blW w;go_enter func204,ntmps204;go_wp2_with fail;obtain⟨w1,am⟩:=afZ (w.alloc (.cells #[.string a,.slice A l.length c,.slice A2 n2 c2] 265));have c2':w1.cell? ⟨w.heap.size,0,none⟩=some (.string a):=by rw[<-am];simp[go_sem]
 have dG:w.heap.size<w1.heap.size:=by rw[<-am];simp
 have aF:Hid (Below w.heap.size w w1):=jq (by rw[<-am];exact HW.out _);rw[am];clear am;go_loopw [10] (λi wr=>∃ k:Nat,k<=l.length/\i = .int .i64 k/\Hid (Below w1.heap.size w1 wr)/\Hid (∀ j x,j<k->l[j]?=some x->Np.go a.data.toList x.sigs)) (λi _=>l.length - (intOf i).toNat)
 case atStart=>exact⟨0,jQ _,rfl,jq (vQ _ _),jq (λj x hj=>by omega)⟩
 case round=>
  obtain⟨k,hk,rfl,HB,HA⟩:=hrel;have ay:=HB.out.size;have aH:=aeX aF HB.out;by_cases ab:k<l.length
  ·obtain⟨x,ae⟩:∃ x,l[k]?=some x:=⟨_,aQ ab⟩;obtain⟨b,o,c',sn,dv,sv,hA,bZ,_,aD,cu,aY,aN,e0,e1,e2,e3,e4⟩:=dB (HD.out.keep aP aH.out) ae
   cases hA
   have HN:Hid (Np.go a.data.toList x.sigs->∀ j x,j<k+1->l[j]?=some x->Np.go a.data.toList x.sigs):=jq (λh j y hj hy=>by
    by_cases e:j=k
    ·subst e;rw[ae] at hy;cases hy;exact h
    ·exact HA.out j y (by omega) hy)
   have HF:Hid (¬ Np.go a.data.toList x.sigs->r=false):=jq (λh=>by
    rw[<-HR.out];exact Np.aR λq=>h (q x (gQ ae)))
   clear ae;obtain⟨Ad,cd,rfl,_,_⟩:=ak aY;obtain⟨As,cs,rfl,_,_⟩:=ak aN;have hcell:wr.cell? ⟨w.heap.size,0,none⟩=some (.string a):=aeK HB.out c2';have lM:=jq (aN.more fJ (show w.heap.size<=wr.heap.size by omega));have du:w.heap.size<wr.heap.size:=by omega
   have av:b<wr.heap.size:=by omega
   have bA:Hid (∀ o,Below w1.heap.size w1 (wr.alloc o)):=jq (λo=>HB.out.alloc HB.out.size _);have o4:Hid (∀ o,Below w.heap.size w (wr.alloc o)):=jq (λo=>aH.out.alloc (by omega) _);have cj:=kNN k;have ck:(k:Int)<(l.length:Int):=by omega
   have aZ:=jq aD;clear aD aY aN;go_wp2_with fail;refine (aHQ a _ x.sigs _ (lM.out.later eL fJ (blAl))).mono ?_;rintro e w2 ⟨rfl,hb⟩;have ah:Hid (Below wr.heap.size wr w2):=jq ((blAl).trans (hb.mono (by simp)));clear hb
   cases hf:Np.yes (Np.go a.data.toList x.sigs) with
   | true=>
    have HX:=jq (HN.out (Np.eZ.1 hf));clear hf;go_wp2_with fail;go_roundw
    case rel=>exact⟨k+1,by omega,by go_num,jq (HB.out.trans (ah.out.mono HB.out.size)),jq HX.out⟩
    ·simp[intOf]<;>omega
   | false=>
    have HX:=jq (HF.out λh=>by rw[Np.bV h] at hf;cases hf);clear hf;go_wp2_with fail;go_ret;exact⟨ag HX.out.symm,aH.out.trans (ah.out.afK)⟩
  ·go_wp2_with fail;go_ret;refine⟨ag ?_,aH.out⟩;rw[<-HR.out];refine (Np.bV λx hx=>?_).symm;obtain⟨j,hj,rfl⟩:=nQ.1 hx;exact HA.out j _ (by omega) (aQ hj)
end
section
open Go.RowKit Go.MapKept
def pP(p:Int×List UInt8):Value:=.agg #[.int .i64 p.1,aI p.2]
def jD(r:Nat)(kvs:List ((Int×List UInt8)×Value))(w:World):Prop:=∃ es,w.heap[r]?=some (.map es es.size)/\es.toList.map (λe=>(e.key,e.val))=kvs.map (λp=>(pP p.1,p.2))/\∀ (i:Nat) (e:MapEntry),es[i]?=some e->e.born=i
theorem jD.lt{r:Nat}{kvs:List ((Int×List UInt8)×Value)}{w:World}(h:jD r kvs w):r<w.heap.size:=by
 obtain⟨es,h,_⟩:=h;exact (eQ.1 h).1
theorem jD.keep{r:Nat}{kvs:List ((Int×List UInt8)×Value)}{w w':World}{n:Nat}(h:jD r kvs w)(hb:Below n w w')(hn:r<n):jD r kvs w':=by
 obtain⟨es,h,h2⟩:=h;exact⟨es,(hb.block r hn).trans h,h2⟩
theorem jD.keep'{r:Nat}{kvs:List ((Int×List UInt8)×Value)}{w w':World}(h:jD r kvs w)(hb:w'.heap[r]?=w.heap[r]?):jD r kvs w':=by
 obtain⟨es,h,h2⟩:=h;exact⟨es,hb.trans h,h2⟩
theorem jD.made(w:World):jD w.heap.size [] (w.alloc (.map #[] 0)):=⟨#[],heap_alloc_new _ _,rfl,λi e h=>by simp at h⟩
theorem ZK(p q:Int×List UInt8)(w:World):(Op.equal 301 (pP p) (pP q)).run prog w = .ok (decide (p=q)) w:=by
 obtain⟨n,a⟩:=p;obtain⟨m,b⟩:=q;have u3:=underlying3;have a3:=isAgg3;have z3:=sizeOf3;have u9:=underlying9;have a9:=isAgg9;have z9:=sizeOf9;have hS:prog.underlying 301=some (.struct (prog.fieldsOf 301)):=by kernel_rfl
 have hp:prog.stoodInHeld 301=false:=by kernel_rfl
 show (Op.equalIn 10000 301 (.agg #[.int .i64 n,.string ⟨a.toArray⟩]) (.agg #[.int .i64 m,.string ⟨b.toArray⟩])).run prog w=_;rw[show (10000:Nat)=9999+1 from rfl,run_equalIn_agg w 9999 301 _ _ hS hp];simp only[Program.fieldsOf,underlying301];go_simp;by_cases h0:a=b<;>by_cases h1:n=m<;>simp[h0,h1]
theorem ON(b:Bool)(p:Int×List UInt8)(w:World):(Instr.checkKey b 10000 301 (pP p)).run prog w = .ok () w:=by
 have hS:=underlying301;have hs:∀ s w,(Instr.checkKey b 9999 9 (.string s)).run prog w = .ok () w:=λs w=>MapKept.run_checkKey (k:=.string s) underlying9 (by simp[MapKept.IsKey]) b 9998;have hi:∀ n w,(Instr.checkKey b 9999 3 (.int .i64 n)).run prog w = .ok () w:=λn w=>MapKept.run_checkKey (k:=.int .i64 n) underlying3 (by simp[MapKept.IsKey]) b 9998;have a3:=isAgg3;have z3:=sizeOf3;have a9:=isAgg9;have z9:=sizeOf9;rw[show (10000:Nat)=9999+1 from rfl,Instr.checkKey];simp only[pP,aI];simp[run_underlying hS,go_sem,Result.andThen,hs,hi]
theorem aaY{fs:Array Field}{k:Value}{e:MapEntry}{es:List MapEntry}(i:Nat):Instr.findNow (.struct fs) k (e::es) i=none:=by
 simp only[Instr.findNow];rfl
theorem OA(p:Int×List UInt8)(w:World):∀ (es:List MapEntry) (kvs:List ((Int×List UInt8)×Value)) (i:Nat),es.map (λe=>(e.key,e.val))=kvs.map (λq=>(pP q.1,q.2))->
 (∀ v,kvs.lookup p=some v->∃ j,(es[j]?).map (λe=>(e.key,e.val))=some (pP p,v)/\kvs[j]?=some (p,v)/\(Instr.findAsking 301 (pP p) es i).run prog w = .ok (some (i+j,v)) w)/\(kvs.lookup p=none->(Instr.findAsking 301 (pP p) es i).run prog w = .ok none w)
 | [],kvs,i,h=>by
   cases kvs with
   | nil=>exact⟨λv h=>by simp at h,λ_=>by rw[Instr.findAsking];rfl⟩
   | cons=>simp at h
 | e::es,kvs,i,h=>by
   cases kvs with
   | nil=>simp at h
   | cons q kvs=>
    obtain⟨q,u⟩:=q;simp only[List.map_cons,List.cons.injEq,Prod.mk.injEq] at h;obtain⟨⟨h1,h2⟩,h3⟩:=h;obtain⟨i1,i2⟩:=OA p w es kvs (i+1) h3;have hq:=ZK p q w;rw[<-h1] at hq;by_cases mC:p=q
    ·have hd:decide (p=q)=true:=by simpa using mC
     rw[hd] at hq;have hr:(Instr.findAsking 301 (pP p) (e::es) i).run prog w = .ok (some (i,u)) w:=by
      rw[Instr.findAsking];simp[hq,h2]
     subst mC;refine⟨λv hv=>⟨0,?_,?_,?_⟩,λhn=>?_⟩
     ·rw[List.lookup_cons_self] at hv;cases hv;simp[h1,h2]
     ·rw[List.lookup_cons_self] at hv;cases hv;rfl
     ·rw[List.lookup_cons_self] at hv;cases hv;exact hr
     ·rw[List.lookup_cons_self] at hn;cases hn
    ·have hd:decide (p=q)=false:=by simpa using mC
     rw[hd] at hq;have hb:(p == q)=false:=by simpa using mC
     have hr:(Instr.findAsking 301 (pP p) (e::es) i).run prog w=(Instr.findAsking 301 (pP p) es (i+1)).run prog w:=by
      rw[Instr.findAsking];simp[hq]
     have hl:((q,u)::kvs).lookup p=kvs.lookup p:=by rw[List.lookup_cons,hb]
     rw[hr,hl];refine⟨λv hv=>?_,i2⟩;obtain⟨j,j1,j2,j3⟩:=i1 v hv;exact⟨j+1,by simpa using j1,by simpa using j2,by rw[show i+(j+1)=i+1+j by omega];exact j3⟩
theorem Ph(p:Int×List UInt8)(w:World)(es:List MapEntry)(kvs:List ((Int×List UInt8)×Value))(h:es.map (λe=>(e.key,e.val))=kvs.map (λq=>(pP q.1,q.2))) :
 (∀ v,kvs.lookup p=some v->∃ j,(es[j]?).map (λe=>(e.key,e.val))=some (pP p,v)/\kvs[j]?=some (p,v)/\(Instr.findKey 301 (pP p) es).run prog w = .ok (some (j,v)) w)/\(kvs.lookup p=none->(Instr.findKey 301 (pP p) es).run prog w = .ok none w):=by
 have hS:=underlying301
 cases es with
 | nil=>
  cases kvs with
  | nil=>exact⟨λv h=>by simp at h,λ_=>by simp[Instr.findKey,run_underlying hS,Instr.findNow]⟩
  | cons=>simp at h
 | cons e es=>
  obtain⟨i1,i2⟩:=OA p w (e::es) kvs 0 h;have hr:(Instr.findKey 301 (pP p) (e::es)).run prog w=(Instr.findAsking 301 (pP p) (e::es) 0).run prog w:=by
   simp[Instr.findKey,run_underlying hS,aaY]
  rw[hr];refine⟨λv hv=>?_,i2⟩;obtain⟨j,j1,j2,j3⟩:=i1 v hv;exact⟨j,j1,j2,by rw[j3,Nat.zero_add]⟩
theorem a9X(w:World)(t et:TypeId)(ht:prog.underlying t=some (.map 301 et))(r:Nat)(kvs:List ((Int×List UInt8)×Value))(hr:jD r kvs w)(p:Int×List UInt8)(z:Value)(hz:(zeroValue et).run prog w = .ok z w) :
 (Instr.lookup t (.map (some r)) (pP p) false).run prog w = .ok ((kvs.lookup p).getD z) w:=by
 obtain⟨es,hr,he,_⟩:=hr;have hf:=Ph p w es.toList kvs he;have hc:∀ b,(Instr.checkKey b 10000 301 (pP p)).run prog w = .ok () w:=λb=>ON b p w
 cases hl:kvs.lookup p with
 | none=>simp[Instr.lookup,run_underlying ht,MapKept.run_getObj_map hr,hc,hf.2 hl,Result.andThen,hz]
 | some v=>
  obtain⟨j,_,_,hj⟩:=hf.1 v hl;simp[Instr.lookup,run_underlying ht,MapKept.run_getObj_map hr,hc,hj,Result.andThen]
theorem btX{ops:Array Oper}{rest:List Oper}{o:Oper}{a:Act}{Q:Exit->Act->World->Prop}(w:World)(hg:o.guard=none)(m x v:Operand)(t:TypeId)(iP:o.op=Op.mapUpdate t m x v)(et:TypeId)(ht:prog.underlying t=some (.map 301 et))
 (r:Nat) (kvs:List ((Int×List UInt8)×Value)) (hm:a.eval m = .map (some r)) (hr:jD r kvs w) (p:Int×List UInt8) (hx:a.eval x=pP p) (val:Value) (hv:a.eval v=val) (fG:kvs.lookup p=none)
 (hK:∀ w',jD r (kvs ++ [(p,val)]) w'->Turned r w w'->wpList prog ops Q rest (a.put o.dst undef) w'):wpList prog ops Q (o::rest) a w:=by
 obtain⟨es,hr,he,jJ⟩:=hr;have hf:=(Ph p w es.toList kvs he).2 fG;refine wpList_plain hg λK' hK'=>?_;have hc:(Instr.checkKey false 10000 301 (pP p)).run prog w = .ok () w:=ON false p w;have cY:(Instr.mapUpdate t (.map (some r)) (pP p) val).run prog w = .ok () { w with heap:=w.heap.setIfInBounds r (.map (es.push { key:=pP p,val:=val,born:=es.size }) (es.size+1)) }:=by
  simp[Instr.mapUpdate,run_underlying ht,MapKept.run_getObj_map hr,hc,hf,MapKept.run_setObj_map _ hr,Result.andThen]
 unfold Oper.wp;simp[execOp,iP,hm,hx,hv,cY,Result.andThen];have hl:r<w.heap.size:=(eQ.1 hr).1;refine hK' _ _ (hK _ ⟨es.push { key:=pP p,val:=val,born:=es.size },by simp[hl],by simp[he],λi e hi=>?_⟩ ⟨rfl,rfl,rfl,by simp,λi hi=>by simp[Ne.symm hi]⟩);rw[Array.getElem?_push] at hi;split at hi
 ·rename_i h1;cases hi;exact h1.symm
 ·exact jJ i e hi
def pH(p:Int×List UInt8):Value:=.agg #[.int .i64 p.1,aI p.2]
def oe(r:Nat)(kvs:List ((Int×List UInt8)×Value))(w:World):Prop:=∃ es,w.heap[r]?=some (.map es es.size)/\es.toList.map (λe=>(e.key,e.val))=kvs.map (λp=>(pH p.1,p.2))/\∀ (i:Nat) (e:MapEntry),es[i]?=some e->e.born=i
theorem oe.lt{r:Nat}{kvs:List ((Int×List UInt8)×Value)}{w:World}(h:oe r kvs w):r<w.heap.size:=by
 obtain⟨es,h,_⟩:=h;exact (eQ.1 h).1
theorem oe.keep{r:Nat}{kvs:List ((Int×List UInt8)×Value)}{w w':World}{n:Nat}(h:oe r kvs w)(hb:Below n w w')(hn:r<n):oe r kvs w':=by
 obtain⟨es,h,h2⟩:=h;exact⟨es,(hb.block r hn).trans h,h2⟩
theorem oe.keep'{r:Nat}{kvs:List ((Int×List UInt8)×Value)}{w w':World}(h:oe r kvs w)(hb:w'.heap[r]?=w.heap[r]?):oe r kvs w':=by
 obtain⟨es,h,h2⟩:=h;exact⟨es,hb.trans h,h2⟩
theorem oe.made(w:World):oe w.heap.size [] (w.alloc (.map #[] 0)):=⟨#[],heap_alloc_new _ _,rfl,λi e h=>by simp at h⟩
theorem ZI(p q:Int×List UInt8)(w:World):(Op.equal 186 (pH p) (pH q)).run prog w = .ok (decide (p=q)) w:=by
 obtain⟨n,a⟩:=p;obtain⟨m,b⟩:=q;have u3:=underlying3;have a3:=isAgg3;have z3:=sizeOf3;have u9:=underlying9;have a9:=isAgg9;have z9:=sizeOf9;have hS:prog.underlying 186=some (.struct (prog.fieldsOf 186)):=by kernel_rfl
 have hp:prog.stoodInHeld 186=false:=by kernel_rfl
 show (Op.equalIn 10000 186 (.agg #[.int .i64 n,.string ⟨a.toArray⟩]) (.agg #[.int .i64 m,.string ⟨b.toArray⟩])).run prog w=_;rw[show (10000:Nat)=9999+1 from rfl,run_equalIn_agg w 9999 186 _ _ hS hp];simp only[Program.fieldsOf,underlying186];go_simp;by_cases h0:a=b<;>by_cases h1:n=m<;>simp[h0,h1]
theorem YU(b:Bool)(p:Int×List UInt8)(w:World):(Instr.checkKey b 10000 186 (pH p)).run prog w = .ok () w:=by
 have hS:=underlying186;have hs:∀ s w,(Instr.checkKey b 9999 9 (.string s)).run prog w = .ok () w:=λs w=>MapKept.run_checkKey (k:=.string s) underlying9 (by simp[MapKept.IsKey]) b 9998;have hi:∀ n w,(Instr.checkKey b 9999 3 (.int .i64 n)).run prog w = .ok () w:=λn w=>MapKept.run_checkKey (k:=.int .i64 n) underlying3 (by simp[MapKept.IsKey]) b 9998;have a3:=isAgg3;have z3:=sizeOf3;have a9:=isAgg9;have z9:=sizeOf9;rw[show (10000:Nat)=9999+1 from rfl,Instr.checkKey];simp only[pH,aI];simp[run_underlying hS,go_sem,Result.andThen,hs,hi]
theorem aaK{fs:Array Field}{k:Value}{e:MapEntry}{es:List MapEntry}(i:Nat):Instr.findNow (.struct fs) k (e::es) i=none:=by
 simp only[Instr.findNow];rfl
theorem Ox(p:Int×List UInt8)(w:World):∀ (es:List MapEntry) (kvs:List ((Int×List UInt8)×Value)) (i:Nat),es.map (λe=>(e.key,e.val))=kvs.map (λq=>(pH q.1,q.2))->
 (∀ v,kvs.lookup p=some v->∃ j,(es[j]?).map (λe=>(e.key,e.val))=some (pH p,v)/\kvs[j]?=some (p,v)/\(Instr.findAsking 186 (pH p) es i).run prog w = .ok (some (i+j,v)) w)/\(kvs.lookup p=none->(Instr.findAsking 186 (pH p) es i).run prog w = .ok none w)
 | [],kvs,i,h=>by
   cases kvs with
   | nil=>exact⟨λv h=>by simp at h,λ_=>by rw[Instr.findAsking];rfl⟩
   | cons=>simp at h
 | e::es,kvs,i,h=>by
   cases kvs with
   | nil=>simp at h
   | cons q kvs=>
    obtain⟨q,u⟩:=q;simp only[List.map_cons,List.cons.injEq,Prod.mk.injEq] at h;obtain⟨⟨h1,h2⟩,h3⟩:=h;obtain⟨i1,i2⟩:=Ox p w es kvs (i+1) h3;have hq:=ZI p q w;rw[<-h1] at hq;by_cases mC:p=q
    ·have hd:decide (p=q)=true:=by simpa using mC
     rw[hd] at hq;have hr:(Instr.findAsking 186 (pH p) (e::es) i).run prog w = .ok (some (i,u)) w:=by
      rw[Instr.findAsking];simp[hq,h2]
     subst mC;refine⟨λv hv=>⟨0,?_,?_,?_⟩,λhn=>?_⟩
     ·rw[List.lookup_cons_self] at hv;cases hv;simp[h1,h2]
     ·rw[List.lookup_cons_self] at hv;cases hv;rfl
     ·rw[List.lookup_cons_self] at hv;cases hv;exact hr
     ·rw[List.lookup_cons_self] at hn;cases hn
    ·have hd:decide (p=q)=false:=by simpa using mC
     rw[hd] at hq;have hb:(p == q)=false:=by simpa using mC
     have hr:(Instr.findAsking 186 (pH p) (e::es) i).run prog w=(Instr.findAsking 186 (pH p) es (i+1)).run prog w:=by
      rw[Instr.findAsking];simp[hq]
     have hl:((q,u)::kvs).lookup p=kvs.lookup p:=by rw[List.lookup_cons,hb]
     rw[hr,hl];refine⟨λv hv=>?_,i2⟩;obtain⟨j,j1,j2,j3⟩:=i1 v hv;exact⟨j+1,by simpa using j1,by simpa using j2,by rw[show i+(j+1)=i+1+j by omega];exact j3⟩
theorem aaZ(p:Int×List UInt8)(w:World)(es:List MapEntry)(kvs:List ((Int×List UInt8)×Value))(h:es.map (λe=>(e.key,e.val))=kvs.map (λq=>(pH q.1,q.2))) :
 (∀ v,kvs.lookup p=some v->∃ j,(es[j]?).map (λe=>(e.key,e.val))=some (pH p,v)/\kvs[j]?=some (p,v)/\(Instr.findKey 186 (pH p) es).run prog w = .ok (some (j,v)) w)/\(kvs.lookup p=none->(Instr.findKey 186 (pH p) es).run prog w = .ok none w):=by
 have hS:=underlying186
 cases es with
 | nil=>
  cases kvs with
  | nil=>exact⟨λv h=>by simp at h,λ_=>by simp[Instr.findKey,run_underlying hS,Instr.findNow]⟩
  | cons=>simp at h
 | cons e es=>
  obtain⟨i1,i2⟩:=Ox p w (e::es) kvs 0 h;have hr:(Instr.findKey 186 (pH p) (e::es)).run prog w=(Instr.findAsking 186 (pH p) (e::es) 0).run prog w:=by
   simp[Instr.findKey,run_underlying hS,aaK]
  rw[hr];refine⟨λv hv=>?_,i2⟩;obtain⟨j,j1,j2,j3⟩:=i1 v hv;exact⟨j,j1,j2,by rw[j3,Nat.zero_add]⟩
end
section
open Go.RowKit
theorem aSQ(a b:ByteArray)(n m p q:Int)(w:World):(binOp .neq 128 (.agg #[.string a,.int .i64 n,.int .i64 m]) (.agg #[.string b,.int .i64 p,.int .i64 q])).run prog w = .ok (.bool (!(a.toList == b.toList&&(n == p&&m == q)))) w:=by
 have u3:=underlying3;have a3:=isAgg3;have z3:=sizeOf3;have u9:=underlying9;have a9:=isAgg9;have z9:=sizeOf9;have hS:prog.underlying 128=some (.struct (prog.fieldsOf 128)):=by kernel_rfl
 have hp:prog.stoodInHeld 128=false:=by kernel_rfl
 rw[run_neq_struct,show (10000:Nat)=9999+1 from rfl,run_equalIn_agg w 9999 128 _ _ hS hp];simp only[Program.fieldsOf,underlying128];go_simp;by_cases h0:a.toList=b.toList<;>by_cases h1:n=p<;>by_cases h2:m=q<;>simp[h0,h1,h2]
theorem Zo{d x:Np.Datum}{a b:ByteArray}(ha:a.data.toList=d.text)(hb:b.data.toList=x.text):(!(a.toList == b.toList&&(d.n == x.n&&d.m == x.m)))=decide (d≠x):=by
 rw[dQ,dQ,ha,hb,Bool.eq_iff_iff];simp only[Bool.not_eq_true',Bool.and_eq_false_iff,beq_eq_false_iff_ne,Qa];obtain⟨t,n,m⟩:=d;obtain⟨t2,n2,m2⟩:=x;simp only[ne_eq,Np.Datum.mk.injEq,not_and];constructor
 ·rintro (h | h | h) rfl rfl
  ·exact absurd rfl h
  ·exact absurd rfl h
  ·exact h
 ·intro h;by_cases h1:t=t2
  ·by_cases h2:n=n2
   ·exact .inr (.inr (h h1 h2))
   ·exact .inr (.inl h2)
  ·exact .inl h1
theorem Ze{α:Type}{xs ys:List α}{k:Nat}(h1:k<xs.length)(h2:k<ys.length)(h:xs.take k=ys.take k)(he:xs[k]=ys[k]):xs.take (k+1)=ys.take (k+1):=by
 rw[fQ h1,fQ h2,h,he]
theorem Zd{α:Type}{xs ys:List α}{k:Nat}(hl:xs.length=ys.length)(hk:¬ k<xs.length)(h:xs.take k=ys.take k):xs=ys:=by
 rwa [kQ (by omega),kQ (by omega)] at h
theorem bbX(s1 s2:ByteArray)(t1 l1 t2 l2:Int)(v1 v2:Value)(d1 d2:List Np.Datum)(w:World)(fp:SlR ci 3 w w.heap.size v1 d1)(lZ:SlR ci 3 w w.heap.size v2 d2) :
 Calls prog 63 #[.agg #[.string s1,.int .i64 t1,.int .i64 l1,v1],.agg #[.string s2,.int .i64 t2,.int .i64 l2,v2]] w
  λe w'=>e = .returned (.bool (decide (s1=s2/\t1=t2/\l1=l2/\d1=d2)))/\Below w.heap.size w w':=by
 obtain⟨r,hr⟩:=afZ (decide (s1=s2/\t1=t2/\l1=l2/\d1=d2));rw[hr];have HR:=jq hr;have Aj:=jq fp;have nW:=jq lZ;obtain⟨A1,c1,rfl,bw,bT⟩:=ak fp;obtain⟨A2,c2,rfl,dE,dF⟩:=ak lZ;have iN:Below w.heap.size w ((w.alloc (.cells #[.string s1,.int .i64 t1,.int .i64 l1,.slice A1 d1.length c1] 26)).alloc (.cells #[.string s2,.int .i64 t2,.int .i64 l2,.slice A2 d2.length c2] 26)):=(blAl).alloc (by simp) _;have bA:=jq iN;clear hr fp lZ iN;have wN:∀ x y:Int,(x != y)=decide (x≠y):=λx y=>by by_cases h:x=y<;>simp[h]
 by_cases h1:s1=s2
 case neg=>
  have h1':¬ s1.toList=s2.toList:=λe=>h1 (iC (by rw[<-dQ,<-dQ];exact e));have HF:=jq (show r=false by rw[<-HR.out];simp[h1]);clear h1 wN;go_enter func63,ntmps63;go_wp2_with fail;go_ret;exact⟨ag HF.out.symm,bA.out⟩
 case pos=>
  subst h1;by_cases h2:t1=t2
  case neg=>
   have h2':(t1 != t2)=true:=by simpa using h2
   have HF:=jq (show r=false by rw[<-HR.out];simp[h2]);clear h2 wN;go_enter func63,ntmps63;go_wp2_with fail;go_ret;exact⟨ag HF.out.symm,bA.out⟩
  case pos=>
   subst h2;by_cases h3:l1=l2
   case neg=>
    have h3':(l1 != l2)=true:=by simpa using h3
    have HF:=jq (show r=false by rw[<-HR.out];simp[h3]);clear h3 wN;go_enter func63,ntmps63;go_wp2_with fail;go_ret;exact⟨ag HF.out.symm,bA.out⟩
   case pos=>
    subst h3;by_cases h4:d1.length=d2.length
    case neg=>
     have h4':((d1.length:Int) != (d2.length:Int))=true:=by rw[wN];simp;omega
     have HF:=jq (show r=false by rw[<-HR.out];simp;intro e;exact h4 (by rw[e]));clear h4 wN;go_enter func63,ntmps63;go_wp2_with fail;go_ret;exact⟨ag HF.out.symm,bA.out⟩
    case pos=>
     have h4':((d1.length:Int) != (d2.length:Int))=false:=by rw[wN];simp;omega
     have HL:=jq h4;clear h4 wN;go_enter func63,ntmps63;go_wp2_with fail;have aB:((w.alloc (.cells #[.string s1,.int .i64 t1,.int .i64 l1,.slice A1 d1.length c1] 26)).alloc (.cells #[.string s1,.int .i64 t1,.int .i64 l1,.slice A2 d2.length c2] 26)).heap.size=w.heap.size+1+1:=by simp
     have q1:((w.alloc (.cells #[.string s1,.int .i64 t1,.int .i64 l1,.slice A1 d1.length c1] 26)).alloc (.cells #[.string s1,.int .i64 t1,.int .i64 l1,.slice A2 d2.length c2] 26)).cell? ⟨w.heap.size,3,none⟩=some (.slice A1 d1.length c1):=by simp[go_sem]
     have q2:((w.alloc (.cells #[.string s1,.int .i64 t1,.int .i64 l1,.slice A1 d1.length c1] 26)).alloc (.cells #[.string s1,.int .i64 t1,.int .i64 l1,.slice A2 d2.length c2] 26)).cell? ⟨w.heap.size+1,3,none⟩=some (.slice A2 d2.length c2):=by simp[go_sem]
     generalize bg:((w.alloc (.cells #[.string s1,.int .i64 t1,.int .i64 l1,.slice A1 d1.length c1] 26)).alloc (.cells #[.string s1,.int .i64 t1,.int .i64 l1,.slice A2 d2.length c2] 26))=wa at *;have HQ:=jq (And.intro q1 (And.intro q2 aB));clear bg q1 q2 aB;go_loopw [5] (λi wr=>∃ k:Nat,k<=d1.length/\i = .int .i64 k/\Hid (d1.take k=d2.take k)/\Hid (Below wa.heap.size wa wr)) (λi _=>d1.length - (intOf i).toNat)
     case atStart=>exact⟨0,jQ _,rfl,jq rfl,jq (vQ _ _)⟩
     case round=>
      obtain⟨k,hk,rfl,HN,HB⟩:=hrel;have aM:=bA.out.trans (HB.out.mono bA.out.size);have sE:=HQ.out;have g1:=aeK HB.out sE.1;have g2:=aeK HB.out sE.2.1;clear sE;by_cases ab:k<d1.length
      ·have yV:k<d2.length:=by have:=HL.out;omega
       obtain⟨b,o,c',s,hv,b7,_,bU,_,e0,e1,e2⟩:=El Aj.out (aQ ab);simp only[Value.slice.injEq,true_and] at hv;obtain⟨rfl,rfl⟩:=hv;obtain⟨b',o',c'',s',hv,tP,_,fH,_,f0,f1,f2⟩:=El nW.out (aQ yV);simp only[Value.slice.injEq,true_and] at hv;obtain⟨rfl,rfl⟩:=hv;have HT:=jq (Ze ab yV HN.out);have jZ:=jq (show d1[k]≠d2[k]->r=false from λhne=>by rw[<-HR.out];simp;intro e;subst e;exact hne rfl);generalize d1[k]=x at *;generalize d2[k]=y at *;replace e0:=(aM.cell (p:=⟨b,o+k * 3,none⟩) b7).trans e0;replace e1:=(aM.cell (p:=⟨b,o+k * 3+1,none⟩) b7).trans e1;replace e2:=(aM.cell (p:=⟨b,o+k * 3+2,none⟩) b7).trans e2;replace f0:=(aM.cell (p:=⟨b',o'+k * 3,none⟩) tP).trans f0;replace f1:=(aM.cell (p:=⟨b',o'+k * 3+1,none⟩) tP).trans f1;replace f2:=(aM.cell (p:=⟨b',o'+k * 3+2,none⟩) tP).trans f2;have cj:=kNN k;have ck:(k:Int)<(d1.length:Int):=by omega
       have lk:(k:Int)<(d2.length:Int):=by omega
       have heq:=aSQ s s' x.n x.m y.n y.m;rw[Zo bU fH] at heq;clear aM bU fH;by_cases hx:x=y
       ·have HX:=jq hx;have kx:decide (x≠y)=false:=by simpa using hx
        rw[kx] at heq;clear hx kx;go_wp2_with fail;go_quiet (fail);go_wp2_with fail;go_roundw
        case rel=>exact⟨k+1,by omega,by go_num,jq (HT.out HX.out),jq (below_drewN HB.out _)⟩
        ·simp[intOf]<;>omega
       ·have HX:=jq hx;have kx:decide (x≠y)=true:=by simpa using hx
        rw[kx] at heq;clear hx kx;go_wp2_with fail;go_quiet (fail);go_wp2_with fail;go_ret;exact⟨ag (jZ.out HX.out).symm,below_drewN (bA.out.trans (HB.out.mono bA.out.size)) _⟩
      ·go_wp2_with fail;go_ret;refine⟨ag ?_,bA.out.trans (HB.out.mono bA.out.size)⟩;rw[<-HR.out]
       have:=Zd HL.out ab HN.out
       simp[this]
theorem aSZ(a b:ByteArray)(n1 n2 n3 n4 m1 m2 m3 m4:Int)(s1 s2:Int)(w:World):(binOp .neq 50 (.agg #[.string a,.int .i64 n1,.int .i64 n2,.int .i64 n3,.int .i64 n4,.int .u64 s1]) (.agg #[.string b,.int .i64 m1,.int .i64 m2,.int .i64 m3,.int .i64 m4,.int .u64 s2])).run prog w = .ok (.bool (!(a.toList == b.toList&&(n1 == m1&&(n2 == m2&&(n3 == m3&&(n4 == m4&&s1 == s2))))))) w:=by
 have u3:=underlying3;have a3:=isAgg3;have z3:=sizeOf3;have u9:=underlying9;have a9:=isAgg9;have z9:=sizeOf9;have u8:=underlying48;have a8:=isAgg48;have z8:=sizeOf48;have hS:prog.underlying 50=some (.struct (prog.fieldsOf 50)):=by kernel_rfl
 have hp:prog.stoodInHeld 50=false:=by kernel_rfl
 rw[run_neq_struct,show (10000:Nat)=9999+1 from rfl,run_equalIn_agg w 9999 50 _ _ hS hp];simp only[Program.fieldsOf,underlying50];go_simp;by_cases h0:a.toList=b.toList<;>by_cases h1:n1=m1<;>by_cases h2:n2=m2<;>by_cases h3:n3=m3<;>by_cases h4:n4=m4<;>by_cases h5:s1=s2<;>simp[h0,h1,h2,h3,h4,h5]
theorem beK{x y:Np.Sig}{a b:ByteArray}(ha:a.data.toList=x.zone)(hb:b.data.toList=y.zone):(!(a.toList == b.toList&&(x.key == y.key&&(x.alg == y.alg&&(x.frm == y.frm&&(x.til == y.til&&x.sum == y.sum))))))=decide (x≠y):=by
 rw[dQ,dQ,ha,hb];obtain⟨z,k,g,f,t,m⟩:=x;obtain⟨z',k',g',f',t',m'⟩:=y;simp only[ne_eq,Np.Sig.mk.injEq];by_cases h0:z=z'<;>by_cases h1:k=k'<;>by_cases h2:g=g'<;>by_cases h3:f=f'<;>by_cases h4:t=t'<;>by_cases h5:m=m'<;>simp[h0,h1,h2,h3,h4,h5]
theorem TE(s1 s2:ByteArray)(t1 l1 t2 l2:Int)(v1 v2 u1 u2:Value)(d1 d2:List Np.Datum)(g1 g2:List Np.Sig)(w:World)(fp:SlR ci 3 w w.heap.size v1 d1)(lZ:SlR ci 3 w w.heap.size v2 d2)(yS:SlR fi 6 w w.heap.size u1 g1)(EU:SlR fi 6 w w.heap.size u2 g2) :
 Calls prog 20 #[.agg #[.string s1,.int .i64 t1,.int .i64 l1,v1,u1],.agg #[.string s2,.int .i64 t2,.int .i64 l2,v2,u2]] w
  λe w'=>e = .returned (.bool (decide ((s1=s2/\t1=t2/\l1=l2/\d1=d2)/\g1=g2)))/\Below w.heap.size w w':=by
 obtain⟨r,hr⟩:=afZ (decide ((s1=s2/\t1=t2/\l1=l2/\d1=d2)/\g1=g2));rw[hr];have HR:=jq hr;have Aj:=jq fp;have nW:=jq lZ;have xY:=jq yS;have xZ:=jq EU;obtain⟨A1,c1,rfl,_,_⟩:=ak fp;obtain⟨A2,c2,rfl,_,_⟩:=ak lZ;obtain⟨A3,c3,rfl,_,_⟩:=ak yS;obtain⟨A4,c4,rfl,_,_⟩:=ak EU;clear fp lZ yS EU hr;obtain⟨d1n,h1⟩:=afZ d1.length;obtain⟨d2n,h2⟩:=afZ d2.length;obtain⟨n,h3⟩:=afZ g1.length;obtain⟨m,h4⟩:=afZ g2.length;rw[h1,h2,h3,h4];rw[h1] at Aj;rw[h2] at nW;rw[h3] at xY;rw[h4] at xZ;have H3:=jq h3;have H4:=jq h4;clear h1 h2 h3 h4;obtain⟨X,hX⟩:=afZ w.heap.size;obtain⟨Y,hY⟩:=afZ (X+1);obtain⟨W1,aB⟩:=afZ ((w.alloc (.cells #[.string s1,.int .i64 t1,.int .i64 l1,.slice A1 d1n c1,.slice A3 n c3] 42)).alloc (.cells #[.string s2,.int .i64 t2,.int .i64 l2,.slice A2 d2n c2,.slice A4 m c4] 42));have aM:Below w.heap.size w W1:=by rw[<-aB];exact (blAl).alloc (by simp) _
 have jS:W1.heap.size=w.heap.size+2:=by rw[<-aB];simp
 obtain⟨k0,k1,k2,k3,k4⟩:=cRow5 W1 X (.string s1) (.int .i64 t1) (.int .i64 l1) (.slice A1 d1n c1) (.slice A3 n c3) (by rw[<-aB,<-hX];simp[go_sem]);obtain⟨j0,j1,j2,j3,j4⟩:=cRow5 W1 Y (.string s2) (.int .i64 t2) (.int .i64 l2) (.slice A2 d2n c2) (.slice A4 m c4) (by rw[<-aB,<-hY,<-hX];simp[go_sem]);rw[hX] at aM jS Aj nW xY xZ |-;have aS:=jq aM;clear aM;go_enter func20,ntmps20;go_wp2_with fail;refine (bbX s1 s2 t1 l1 t2 l2 _ _ d1 d2 _ ((Aj.out.keep cJ aS.out).more di (by omega)) ((nW.out.keep cJ aS.out).more di (by omega))).mono ?_;rintro e w2 ⟨rfl,aa⟩;have aO:=aa.size;replace k0:=aeK aa k0;replace k1:=aeK aa k1;replace k2:=aeK aa k2;replace k3:=aeK aa k3;replace k4:=aeK aa k4;replace j0:=aeK aa j0;replace j1:=aeK aa j1;replace j2:=aeK aa j2;replace j3:=aeK aa j3;replace j4:=aeK aa j4;have ah:=aeX aS aa;clear aa aB hX;obtain⟨q,hq⟩:=afZ (decide (s1=s2/\t1=t2/\l1=l2/\d1=d2));rw[hq];have nZ:=jq hq;clear hq
 cases q with
 | false=>
  have HX:Hid (r=false):=jq (by rw[<-HR.out];exact tQ λh=>(of_decide_eq_false nZ.out) h.1);go_wp2_with fail;go_ret;exact⟨ag HX.out.symm,ah.out⟩
 | true=>
  by_cases ub:n=m
  ·subst ub;go_wp2_with fail;go_loopw [5] (λi wr=>∃ (k:Nat),k<=n/\i = .int .i64 k/\Hid (Below w2.heap.size w2 wr)/\Hid (g1.take k=g2.take k)) (λi _=>n - (intOf i).toNat)
   case atStart=>exact⟨0,jQ _,rfl,jq (vQ _ _),jq rfl⟩
   case round=>
    obtain⟨k,hk,rfl,bp,HT⟩:=hrel;have ay:=bp.out.size;have HB:=aeX ah bp.out;have a4:=aeK bp.out k4;have b4:=aeK bp.out j4;by_cases ab:k<n
    ·obtain⟨x,hx⟩:∃ x,g1[k]?=some x:=⟨_,aQ (by rw[H3.out];exact ab)⟩;obtain⟨y,hy⟩:∃ y,g2[k]?=some y:=⟨_,aQ (by rw[H4.out];exact ab)⟩;obtain⟨b,o,c,sx,hv,bZ,qX,_,f0,f1,f2,f3,f4,f5⟩:=sX (xY.out.keep eL HB.out) hx;obtain⟨b',o',c',sy,hv',BN,kw,_,e0,e1,e2,e3,e4,e5⟩:=sX (xZ.out.keep eL HB.out) hy;simp only[Value.slice.injEq] at hv hv';obtain⟨rfl,_,_⟩:=hv;obtain⟨rfl,_,_⟩:=hv';have mV:Hid (x=y->g1.take (k+1)=g2.take (k+1)):=jq (λe=>by
      obtain⟨q1,q2⟩:=cQ.1 hx;obtain⟨q3,q4⟩:=cQ.1 hy;rw[fQ q1,fQ q3,q2,q4,HT.out,e])
     have jZ:Hid (x≠y->r=false):=jq (λe=>by
      rw[<-HR.out];refine tQ λh=>e ?_;have h2:=h.2;subst h2;rw[hx] at hy;simpa using hy)
     have cj:(0:Int)<=(k:Int):=by omega
     have ck:(k:Int)<(n:Int):=by omega
     have heq:=aSZ sx sy x.key x.alg x.frm x.til y.key y.alg y.frm y.til x.sum y.sum;rw[beK qX kw] at heq;clear hx hy qX kw;by_cases cH:x=y
     ·have HX:=jq (mV.out cH);have kx:decide (x≠y)=false:=by simpa using cH
      rw[kx] at heq;clear kx cH;go_wp2_with fail;go_quiet (fail);go_wp2_with fail;go_roundw
      case rel=>exact⟨k+1,by omega,by go_num,jq (below_drewN bp.out _),HX⟩
      ·simp[intOf]<;>omega
     ·have HX:=jq (jZ.out cH);have kx:decide (x≠y)=true:=uQ cH;rw[kx] at heq;clear kx cH;go_wp2_with fail;go_quiet (fail);go_wp2_with fail;go_ret;exact⟨ag HX.out.symm,below_drewN HB.out _⟩
    ·have HX:Hid (r=true):=jq (by
      rw[<-HR.out];refine uQ ⟨of_decide_eq_true nZ.out,?_⟩
      have:=HT.out
      rwa [kQ (by rw[H3.out];omega),kQ (by rw[H4.out];omega)] at this)
     go_wp2_with fail;go_ret;exact⟨ag HX.out.symm,HB.out⟩
  ·have hne:(n:Int)≠(m:Int):=by omega
   have hd:decide ((n:Int)=(m:Int))=false:=tQ hne;have hb:((n:Int) == (m:Int))=false:=by simpa using hne
   have HX:Hid (r=false):=jq (by rw[<-HR.out];exact tQ λh=>ub (by rw[<-H3.out,<-H4.out,h.2]));go_wp2_with fail;go_ret;exact⟨ag HX.out.symm,ah.out⟩
end
section
open Go.RowKit Go.MapKept
def pJ(p:List UInt8×Int):Value:=.agg #[aI p.1,.int .i64 p.2]
def iH(r:Nat)(kvs:List ((List UInt8×Int)×Value))(w:World):Prop:=∃ es,w.heap[r]?=some (.map es es.size)/\es.toList.map (λe=>(e.key,e.val))=kvs.map (λp=>(pJ p.1,p.2))/\∀ (i:Nat) (e:MapEntry),es[i]?=some e->e.born=i
theorem iH.lt{r:Nat}{kvs:List ((List UInt8×Int)×Value)}{w:World}(h:iH r kvs w):r<w.heap.size:=by
 obtain⟨es,h,_⟩:=h;exact (eQ.1 h).1
theorem iH.keep{r:Nat}{kvs:List ((List UInt8×Int)×Value)}{w w':World}{n:Nat}(h:iH r kvs w)(hb:Below n w w')(hn:r<n):iH r kvs w':=by
 obtain⟨es,h,h2⟩:=h;exact⟨es,(hb.block r hn).trans h,h2⟩
theorem iH.keep'{r:Nat}{kvs:List ((List UInt8×Int)×Value)}{w w':World}(h:iH r kvs w)(hb:w'.heap[r]?=w.heap[r]?):iH r kvs w':=by
 obtain⟨es,h,h2⟩:=h;exact⟨es,hb.trans h,h2⟩
theorem iH.made(w:World):iH w.heap.size [] (w.alloc (.map #[] 0)):=⟨#[],heap_alloc_new _ _,rfl,λi e h=>by simp at h⟩
theorem ZJ(p q:List UInt8×Int)(w:World):(Op.equal 31 (pJ p) (pJ q)).run prog w = .ok (decide (p=q)) w:=by
 obtain⟨a,n⟩:=p;obtain⟨b,m⟩:=q;have u3:=underlying3;have a3:=isAgg3;have z3:=sizeOf3;have u9:=underlying9;have a9:=isAgg9;have z9:=sizeOf9;have hS:prog.underlying 31=some (.struct (prog.fieldsOf 31)):=by kernel_rfl
 have hp:prog.stoodInHeld 31=false:=by kernel_rfl
 show (Op.equalIn 10000 31 (.agg #[.string ⟨a.toArray⟩,.int .i64 n]) (.agg #[.string ⟨b.toArray⟩,.int .i64 m])).run prog w=_;rw[show (10000:Nat)=9999+1 from rfl,run_equalIn_agg w 9999 31 _ _ hS hp];simp only[Program.fieldsOf,underlying31];go_simp;by_cases h0:a=b<;>by_cases h1:n=m<;>simp[h0,h1]
theorem OM(b:Bool)(p:List UInt8×Int)(w:World):(Instr.checkKey b 10000 31 (pJ p)).run prog w = .ok () w:=by
 have hS:=underlying31;have hs:∀ s w,(Instr.checkKey b 9999 9 (.string s)).run prog w = .ok () w:=λs w=>MapKept.run_checkKey (k:=.string s) underlying9 (by simp[MapKept.IsKey]) b 9998;have hi:∀ n w,(Instr.checkKey b 9999 3 (.int .i64 n)).run prog w = .ok () w:=λn w=>MapKept.run_checkKey (k:=.int .i64 n) underlying3 (by simp[MapKept.IsKey]) b 9998;have a3:=isAgg3;have z3:=sizeOf3;have a9:=isAgg9;have z9:=sizeOf9;rw[show (10000:Nat)=9999+1 from rfl,Instr.checkKey];simp only[pJ,aI];simp[run_underlying hS,go_sem,Result.andThen,hs,hi]
theorem aaX{fs:Array Field}{k:Value}{e:MapEntry}{es:List MapEntry}(i:Nat):Instr.findNow (.struct fs) k (e::es) i=none:=by
 simp only[Instr.findNow];rfl
theorem Oz(p:List UInt8×Int)(w:World):∀ (es:List MapEntry) (kvs:List ((List UInt8×Int)×Value)) (i:Nat),es.map (λe=>(e.key,e.val))=kvs.map (λq=>(pJ q.1,q.2))->
 (∀ v,kvs.lookup p=some v->∃ j,(es[j]?).map (λe=>(e.key,e.val))=some (pJ p,v)/\kvs[j]?=some (p,v)/\(Instr.findAsking 31 (pJ p) es i).run prog w = .ok (some (i+j,v)) w)/\(kvs.lookup p=none->(Instr.findAsking 31 (pJ p) es i).run prog w = .ok none w)
 | [],kvs,i,h=>by
   cases kvs with
   | nil=>exact⟨λv h=>by simp at h,λ_=>by rw[Instr.findAsking];rfl⟩
   | cons=>simp at h
 | e::es,kvs,i,h=>by
   cases kvs with
   | nil=>simp at h
   | cons q kvs=>
    obtain⟨q,u⟩:=q;simp only[List.map_cons,List.cons.injEq,Prod.mk.injEq] at h;obtain⟨⟨h1,h2⟩,h3⟩:=h;obtain⟨i1,i2⟩:=Oz p w es kvs (i+1) h3;have hq:=ZJ p q w;rw[<-h1] at hq;by_cases mC:p=q
    ·have hd:decide (p=q)=true:=by simpa using mC
     rw[hd] at hq;have hr:(Instr.findAsking 31 (pJ p) (e::es) i).run prog w = .ok (some (i,u)) w:=by
      rw[Instr.findAsking];simp[hq,h2]
     subst mC;refine⟨λv hv=>⟨0,?_,?_,?_⟩,λhn=>?_⟩
     ·rw[List.lookup_cons_self] at hv;cases hv;simp[h1,h2]
     ·rw[List.lookup_cons_self] at hv;cases hv;rfl
     ·rw[List.lookup_cons_self] at hv;cases hv;exact hr
     ·rw[List.lookup_cons_self] at hn;cases hn
    ·have hd:decide (p=q)=false:=by simpa using mC
     rw[hd] at hq;have hb:(p == q)=false:=by simpa using mC
     have hr:(Instr.findAsking 31 (pJ p) (e::es) i).run prog w=(Instr.findAsking 31 (pJ p) es (i+1)).run prog w:=by
      rw[Instr.findAsking];simp[hq]
     have hl:((q,u)::kvs).lookup p=kvs.lookup p:=by rw[List.lookup_cons,hb]
     rw[hr,hl];refine⟨λv hv=>?_,i2⟩;obtain⟨j,j1,j2,j3⟩:=i1 v hv;exact⟨j+1,by simpa using j1,by simpa using j2,by rw[show i+(j+1)=i+1+j by omega];exact j3⟩
theorem Pf(p:List UInt8×Int)(w:World)(es:List MapEntry)(kvs:List ((List UInt8×Int)×Value))(h:es.map (λe=>(e.key,e.val))=kvs.map (λq=>(pJ q.1,q.2))) :
 (∀ v,kvs.lookup p=some v->∃ j,(es[j]?).map (λe=>(e.key,e.val))=some (pJ p,v)/\kvs[j]?=some (p,v)/\(Instr.findKey 31 (pJ p) es).run prog w = .ok (some (j,v)) w)/\(kvs.lookup p=none->(Instr.findKey 31 (pJ p) es).run prog w = .ok none w):=by
 have hS:=underlying31
 cases es with
 | nil=>
  cases kvs with
  | nil=>exact⟨λv h=>by simp at h,λ_=>by simp[Instr.findKey,run_underlying hS,Instr.findNow]⟩
  | cons=>simp at h
 | cons e es=>
  obtain⟨i1,i2⟩:=Oz p w (e::es) kvs 0 h;have hr:(Instr.findKey 31 (pJ p) (e::es)).run prog w=(Instr.findAsking 31 (pJ p) (e::es) 0).run prog w:=by
   simp[Instr.findKey,run_underlying hS,aaX]
  rw[hr];refine⟨λv hv=>?_,i2⟩;obtain⟨j,j1,j2,j3⟩:=i1 v hv;exact⟨j,j1,j2,by rw[j3,Nat.zero_add]⟩
theorem a9K(w:World)(t et:TypeId)(ht:prog.underlying t=some (.map 31 et))(r:Nat)(kvs:List ((List UInt8×Int)×Value))(hr:iH r kvs w)(p:List UInt8×Int)(z:Value)(hz:(zeroValue et).run prog w = .ok z w) :
 (Instr.lookup t (.map (some r)) (pJ p) true).run prog w = .ok (.tuple #[(kvs.lookup p).getD z,.bool (kvs.lookup p).isSome]) w:=by
 obtain⟨es,hr,he,_⟩:=hr;have hf:=Pf p w es.toList kvs he;have hc:∀ b,(Instr.checkKey b 10000 31 (pJ p)).run prog w = .ok () w:=λb=>OM b p w
 cases hl:kvs.lookup p with
 | none=>simp[Instr.lookup,run_underlying ht,MapKept.run_getObj_map hr,hc,hf.2 hl,Result.andThen,hz]
 | some v=>
  obtain⟨j,_,_,hj⟩:=hf.1 v hl;simp[Instr.lookup,run_underlying ht,MapKept.run_getObj_map hr,hc,hj,Result.andThen]
theorem btJ{ops:Array Oper}{rest:List Oper}{o:Oper}{a:Act}{Q:Exit->Act->World->Prop}(w:World)(hg:o.guard=none)(m x v:Operand)(t:TypeId)(iP:o.op=Op.mapUpdate t m x v)(et:TypeId)(ht:prog.underlying t=some (.map 31 et))
 (r:Nat) (kvs:List ((List UInt8×Int)×Value)) (hm:a.eval m = .map (some r)) (hr:iH r kvs w) (p:List UInt8×Int) (hx:a.eval x=pJ p) (val:Value) (hv:a.eval v=val) (fG:kvs.lookup p=none)
 (hK:∀ w',iH r (kvs ++ [(p,val)]) w'->Turned r w w'->wpList prog ops Q rest (a.put o.dst undef) w'):wpList prog ops Q (o::rest) a w:=by
 obtain⟨es,hr,he,jJ⟩:=hr;have hf:=(Pf p w es.toList kvs he).2 fG;refine wpList_plain hg λK' hK'=>?_;have hc:(Instr.checkKey false 10000 31 (pJ p)).run prog w = .ok () w:=OM false p w;have cY:(Instr.mapUpdate t (.map (some r)) (pJ p) val).run prog w = .ok () { w with heap:=w.heap.setIfInBounds r (.map (es.push { key:=pJ p,val:=val,born:=es.size }) (es.size+1)) }:=by
  simp[Instr.mapUpdate,run_underlying ht,MapKept.run_getObj_map hr,hc,hf,MapKept.run_setObj_map _ hr,Result.andThen]
 unfold Oper.wp;simp[execOp,iP,hm,hx,hv,cY,Result.andThen];have hl:r<w.heap.size:=(eQ.1 hr).1;refine hK' _ _ (hK _ ⟨es.push { key:=pJ p,val:=val,born:=es.size },by simp[hl],by simp[he],λi e hi=>?_⟩ ⟨rfl,rfl,rfl,by simp,λi hi=>by simp[Ne.symm hi]⟩);rw[Array.getElem?_push] at hi;split at hi
 ·rename_i h1;cases hi;exact h1.symm
 ·exact jJ i e hi
end
section
open Go.RowKit

end
end Go.Proofs.YtfnopgdcaanaiaaGreatDoor
