/- No condition. -/
import Derived.Shelf.Strings.OnBuilder
import Derived.Test.YtadhigmjilijcaaGreatDoorRows
import Derived.ProofKit
import Derived.OpenShut
import Derived.Deep.DeepHandedRow
import Derived.Lib.LaidTab
import Derived.Shelf.SlicesE.Clone
import Derived.Shelf.SlSortCmp.WholeK
import Derived.Shelf.Strings.Count
import Derived.Test.YtadhigmjilijcaaGreatDoorA01
set_option linter.all false
set_option maxRecDepth 100000
set_option maxHeartbeats 8000000
namespace Go.Proofs.YtadhigmjilijcaaGreatDoor
open Go.Proofs.Tryz
namespace Np
def inS(l:List Span)(t:Int):Prop:=∃ s∈l,s.frm<=t/\t<s.til
structure ApartS(l:List Span):Prop where
 full:∀ s∈l,s.frm<s.til
 apart:l.Pairwise λa b=>a.til<b.frm
theorem rp(t:Int):¬ inS [] t:=λ⟨_,h,_⟩=>by cases h
theorem mA{a:Span}{l:List Span}{t:Int} : inS (a::l) t↔(a.frm<=t/\t<a.til)\/inS l t:=by
 constructor
 ·rintro⟨s,hs,h⟩;rcases List.mem_cons.1 hs with e | hs
  ·subst e;exact .inl h
  ·exact .inr ⟨s,hs,h⟩
 ·rintro (h | ⟨s,hs,h⟩)
  ·exact⟨a,by simp,h⟩
  ·exact⟨s,mQ _ hs,h⟩
theorem Hs{a b:List Span}{t:Int} : inS (a++b) t↔inS a t\/inS b t:=by
 constructor
 ·rintro⟨s,hs,h⟩;rcases List.mem_append.1 hs with hs | hs
  ·exact .inl ⟨s,hs,h⟩
  ·exact .inr ⟨s,hs,h⟩
 ·rintro (⟨s,hs,h⟩ | ⟨s,hs,h⟩)
  ·exact⟨s,List.mem_append_left _ hs,h⟩
  ·exact⟨s,List.mem_append_right _ hs,h⟩
theorem ApartS.tail{a:Span}{l:List Span}(h:ApartS (a::l)):ApartS l:=⟨λs hs=>h.full s (mQ _ hs),(List.pairwise_cons.1 h.apart).2⟩
theorem ApartS.nil:ApartS []:=⟨λ_ h=>(by cases h),List.Pairwise.nil⟩
theorem ApartS.above{a:Span}{l:List Span}(h:ApartS (a::l)){t:Int}(ht:inS l t):a.til<t:=by
 obtain⟨s,hs,h1,_⟩:=ht
 have:=(List.pairwise_cons.1 h.apart).1 s hs
 omega
theorem ApartS.from{a:Span}{l:List Span}(h:ApartS (a::l)){t:Int}(ht:inS (a::l) t):a.frm<=t:=by
 rcases mA.1 ht with h1 | h1
 ·exact h1.1
 ·have h2:=h.above h1;have h3:=h.full a (by simp);omega
theorem LV:∀ (l m:List Span),ApartS l->ApartS m->(∀ t,inS l t↔inS m t)->l=m
 | [],[],_,_,_=>rfl
 | [],b::m,_,hm,h=>absurd ((h b.frm).2 ⟨b,by simp,Int.le_refl _,hm.full b (by simp)⟩) (rp _)
 | a::l,[],hl,_,h=>absurd ((h a.frm).1 ⟨a,by simp,Int.le_refl _,hl.full a (by simp)⟩) (rp _)
 | a::l,b::m,hl,hm,h=>by
   have fa:=hl.full a (by simp);have fb:=hm.full b (by simp);have e1:a.frm=b.frm:=by
    have h1:=hm.from ((h a.frm).1 ⟨a,by simp,Int.le_refl _,fa⟩);have h2:=hl.from ((h b.frm).2 ⟨b,by simp,Int.le_refl _,fb⟩);omega
   have e2:a.til=b.til:=by
    rcases Int.lt_trichotomy a.til b.til with af | he | af
    ·exfalso
     have:=(h a.til).2 (mA.2 (.inl ⟨by omega,af⟩))
     rcases mA.1 this with h1 | h1
     ·omega
     ·have:=hl.above h1;omega
    ·exact he
    ·exfalso
     have:=(h b.til).1 (mA.2 (.inl ⟨by omega,af⟩))
     rcases mA.1 this with h1 | h1
     ·omega
     ·have:=hm.above h1;omega
   have e:a=b:=by obtain⟨_,_⟩:=a;obtain⟨_,_⟩:=b;simp only at e1 e2;rw[e1,e2]
   subst e;rw[LV l m hl.tail hm.tail (λt=>by
    constructor
    ·intro ht;have h1:=hl.above ht;rcases mA.1 ((h t).1 (mA.2 (.inr ht))) with h2 | h2
     ·omega
     ·exact h2
    ·intro ht;have h1:=hm.above ht;rcases mA.1 ((h t).2 (mA.2 (.inr ht))) with h2 | h2
     ·omega
     ·exact h2)]
def nP(out:List Span)(s:Span):List Span:=
 match out.getLast? with
 | none=>[s]
 | some p=>if s.frm<=p.til then out.dropLast ++ [⟨p.frm,max p.til s.til⟩] else out ++ [s]
theorem aGY(s:Span):nP [] s = [s]:=rfl
theorem aHZ(o:List Span)(p s:Span):nP (o ++ [p]) s=if s.frm<=p.til then o ++ [⟨p.frm,max p.til s.til⟩] else o ++ [p] ++ [s]:=by simp[nP]
theorem aHQ{out:List Span}{s:Span}(ho:ApartS out)(hs:s.frm<s.til)(hf:∀ p∈out,p.frm<=s.frm):ApartS (nP out s)/\(∀ t,inS (nP out s) t↔inS out t\/(s.frm<=t/\t<s.til))/\∀ p∈nP out s,p.frm<=s.frm:=by
 rcases List.eq_nil_or_concat out with rfl | ⟨o,p,rfl⟩
 ·rw[aGY];refine⟨⟨λx hx=>?_,by simp⟩,λt=>?_,λx hx=>?_⟩
  ·rw[List.mem_singleton] at hx;subst hx;exact hs
  ·rw[mA];constructor
   ·rintro (h | h);exact .inr h;exact absurd h (rp t)
   ·rintro (h | h);exact absurd h (rp t);exact .inl h
  ·rw[List.mem_singleton] at hx;subst hx;exact Int.le_refl _
 ·rw[List.concat_eq_append] at ho hf |-;rw[aHZ];have hp:=hf p (by simp);have pW:=ho.full p (by simp);obtain⟨a1,a2,a3⟩:=List.pairwise_append.1 ho.apart;split
  ·rename_i mX;have hm1:=Int.le_max_left p.til s.til;have zT:=Int.le_max_right p.til s.til;have hm3:max p.til s.til=p.til\/max p.til s.til=s.til:=by omega
   refine⟨⟨λx hx=>?_,?_⟩,λt=>?_,λx hx=>?_⟩
   ·rcases List.mem_append.1 hx with hx | hx
    ·exact ho.full x (List.mem_append_left _ hx)
    ·rw[List.mem_singleton] at hx;subst hx;dsimp only;omega
   ·refine List.pairwise_append.2 ⟨a1,by simp,λx hx y hy=>?_⟩;rw[List.mem_singleton] at hy;subst hy;exact a3 x hx p (by simp)
   ·rw[Hs,Hs,mA,mA];dsimp only;constructor
    ·rintro (h | h | h)
     ·exact .inl (.inl h)
     ·rcases Int.lt_or_le t p.til with h2 | h2
      ·exact .inl (.inr (.inl ⟨h.1,h2⟩))
      ·exact .inr ⟨by omega,by omega⟩
     ·exact absurd h (rp t)
    ·rintro ((h | h | h) | h)
     ·exact .inl h
     ·exact .inr (.inl ⟨h.1,by omega⟩)
     ·exact absurd h (rp t)
     ·exact .inr (.inl ⟨by omega,by omega⟩)
   ·rcases List.mem_append.1 hx with hx | hx
    ·exact hf x (List.mem_append_left _ hx)
    ·rw[List.mem_singleton] at hx;subst hx;exact hp
  ·rename_i mX;refine⟨⟨λx hx=>?_,?_⟩,λt=>?_,λx hx=>?_⟩
   ·rcases List.mem_append.1 hx with hx | hx
    ·exact ho.full x hx
    ·rw[List.mem_singleton] at hx;subst hx;exact hs
   ·refine List.pairwise_append.2 ⟨ho.apart,by simp,λx hx y hy=>?_⟩;rw[List.mem_singleton] at hy;subst hy;rcases List.mem_append.1 hx with hx | hx
    ·have:=a3 x hx p (by simp);omega
    ·rw[List.mem_singleton] at hx;subst hx;omega
   ·rw[Hs,mA];constructor
    ·rintro (h | h | h)
     ·exact .inl h
     ·exact .inr h
     ·exact absurd h (rp t)
    ·rintro (h | h)
     ·exact .inl h
     ·exact .inr (.inl h)
   ·rcases List.mem_append.1 hx with hx | hx
    ·exact hf x hx
    ·rw[List.mem_singleton] at hx;subst hx;exact Int.le_refl _
theorem QD:∀ (l out:List Span),ApartS out->(∀ s∈l,s.frm<s.til)->l.Pairwise (λa b=>a.frm<=b.frm)->(∀ p∈out,∀ s∈l,p.frm<=s.frm)->ApartS (l.foldl nP out)/\∀ t,inS (l.foldl nP out) t↔inS out t\/inS l t
 | [],out,ho,_,_,_=>⟨ho,λt=>⟨.inl,λh=>h.elim id (λh=>absurd h (rp t))⟩⟩
 | s::l,out,ho,hf,hs,hp=>by
   obtain⟨h1,h2,h3⟩:=aHQ ho (hf s (by simp)) (λp GW=>hp p GW s (by simp));obtain⟨q1,q2⟩:=List.pairwise_cons.1 hs;obtain⟨h4,h5⟩:=QD l (nP out s) h1 (λx hx=>hf x (mQ _ hx)) q2 (λp GW x hx=>by
    have:=h3 p GW
    have:=q1 x hx
    omega)
   refine⟨h4,λt=>?_⟩;rw[List.foldl_cons,h5,h2,mA,or_assoc]
def B9(y:List UInt8):Prop:=y = []\/∃ c r,y=c::r/\tj c=false
def Lx(x:List UInt8)(ts:List Tok)(free:Bool):Prop:=
 ∀ (y:List UInt8) (p k:Nat),(free=true\/B9 y)->k<=2000->
   (k+ts.length<=2000->∃ ts',ts'.map Cf=ts.map Cf/\rt (x++y) p k=(ts'++(rt y (p+x.length) (k+ts.length)).1,(rt y (p+x.length) (k+ts.length)).2))/\
   (2000<k+ts.length->(rt (x++y) p k).2.1=2)
theorem Lx.weaken{x:List UInt8}{ts:List Tok}{f:Bool}(h:Lx x ts f):Lx x ts false:=λy p k hy hk=>
 h y p k (.inr (by rcases hy with hy | hy;cases hy;exact hy)) hk
theorem amQ:∀ (s:List UInt8) (c:UInt8),c∈s->c=46\/∃ x∈aR s,c∈x:=by
 intro s
 induction s with
 | nil=>intro c h;cases h
 | cons a r ih=>
  intro c hc;rw[aR];by_cases ha:a=46
  ·rw[QbQ ha];rcases List.mem_cons.1 hc with e | e
   ·exact .inl (e.trans ha)
   ·rcases ih c e with h | ⟨x,hx,CQ⟩
    ·exact .inl h
    ·exact .inr ⟨x,mQ _ hx,CQ⟩
  ·rw[Qc ha];have hne:=nf r
   cases hr:aR r with
   | nil=>exact absurd hr hne
   | cons y ys=>
    rw[hr] at ih;rcases List.mem_cons.1 hc with e | e
    ·exact .inr ⟨a::y,by simp,by simp[e]⟩
    ·rcases ih c e with h | ⟨x,hx,CQ⟩
     ·exact .inl h
     ·rcases List.mem_cons.1 hx with rfl | hx
      ·exact .inr ⟨a::x,by simp,by simp[CQ]⟩
      ·exact .inr ⟨x,by simp[hx],CQ⟩
theorem agY{c:UInt8}(h:mD c=true):tj c=true:=by
 unfold mD at h;have hl:∀ c:UInt8,qd c=true\/oR c=true->cls c=3:=by
  intro c h;have hne:¬ (c=32\/c=9\/c=10)/\c≠35:=by
   constructor
   ·rintro (rfl | rfl | rfl)<;>revert h<;>decide
   ·rintro rfl;revert h;decide
  unfold cls;rw[Qc hne.1,Qc hne.2,QbQ (by rcases h with h | h<;>simp[h])]
 simp only[Bool.or_eq_true,beq_iff_eq] at h;unfold tj;rcases h with h | h
 ·rw[hl c h];rfl
 ·subst h;decide
theorem akX{c:UInt8}(h:qd c=true\/oR c=true):cls c=3:=by
 have hne:¬ (c=32\/c=9\/c=10)/\c≠35:=by
  constructor
  ·rintro (rfl | rfl | rfl)<;>revert h<;>decide
  ·rintro rfl;revert h;decide
 unfold cls;rw[Qc hne.1,Qc hne.2,QbQ (by rcases h with h | h<;>simp[h])]
theorem ahQ{x:List UInt8}(h:bT x=true\/x = [42]):∀ c∈x,tj c=true:=by
 rcases h with h | rfl
 ·unfold bT at h;simp only[Bool.and_eq_true] at h;exact λc hc=>agY (List.all_eq_true.1 h.2 c hc)
 ·intro c hc;simp at hc;subst hc;decide
theorem ahZ{x:List UInt8}(h:bT x=true\/x = [42]):∃ c r,x=c::r/\cls c=3:=by
 rcases h with h | rfl
 ·unfold bT at h;simp only[Bool.and_eq_true,Qa,Bool.not_eq_true',beq_eq_false_iff_ne] at h
  cases x with
  | nil=>simp at h
  | cons c r=>
   refine⟨c,r,rfl,akX ?_⟩;have h1:=List.all_eq_true.1 h.2 c (by simp);have h2:=h.1.1.2;simp only[List.head?_cons,ne_eq,Option.some.injEq] at h2;simp only[mD,Bool.or_eq_true,beq_iff_eq] at h1;rcases h1 with h1 | h1
   ·exact h1
   ·exact absurd h1 h2
 ·exact⟨42,[],rfl,by decide⟩
theorem Qu:∀ (s:List UInt8),∃ h t,aR s=h::t/\(∀ c r,h=c::r->∃ r',s=c::r'):=by
 intro s
 cases s with
 | nil=>exact⟨[],[],rfl,λc r h=>by cases h⟩
 | cons a r=>
  rw[aR];by_cases ha:a=46
  ·rw[QbQ ha];exact⟨[],_,rfl,λc r h=>by cases h⟩
  ·rw[Qc ha];have hne:=nf r
   cases hr:aR r with
   | nil=>exact absurd hr hne
   | cons x xs=>exact⟨a::x,xs,rfl,λc r' h=>by cases h;exact⟨_,rfl⟩⟩
theorem PM{s:List UInt8}(h:ao s=true):s.length<=60/\(s = [46]\/∃ c r,s=c::r/\cls c=3/\s.all tj=true):=by
 unfold ao at h;split at h
 ·rename_i e;subst e;exact⟨by decide,.inl rfl⟩
 ·split at h
  ·cases h
  ·rename_i pI;have hg:=XQ _ _ _ h;have hl:∀ x∈aR s,bT x=true\/x = [42]:=λx hx=>(hg x (List.mem_reverse.2 hx)).symm;obtain⟨a,t,e1,e2⟩:=Qu s;obtain⟨c,r,rfl,hc⟩:=ahZ (hl a (by rw[e1];simp));obtain⟨r',rfl⟩:=e2 c r rfl;refine⟨by omega,.inr ⟨c,r',rfl,hc,List.all_eq_true.2 λb hb=>?_⟩⟩;rcases amQ _ b hb with rfl | ⟨x,hx,dP⟩
   ·decide
   ·exact ahQ (hl x hx) b dP
end Np
section
theorem aHX{k:Int}{l:List UInt8}(h:Np.vu k l=true):l.length<=60:=by
 unfold Np.vu at h;split at h
 ·simp only[Bool.and_eq_true] at h;exact (Np.PM h.1).1
 ·split at h
  ·exact (Np.PM h).1
  ·split at h
   ·unfold Np.lj at h;simp only[Bool.and_eq_true,Qa] at h;omega
   ·have:l = []:=by simpa using h
    rw[this];simp
end
namespace Np
structure Plain47(s:Signed):Prop where
 name:47∉s.set.name
 type:0<=s.set.type
 life:0<=s.set.life
 data:∀ d∈s.set.data,47∉d.text/\0<=d.n/\0<=d.m
 sigs:∀ g∈s.sigs,47∉g.zone/\0<=g.key/\0<=g.alg/\0<=g.frm/\0<=g.til/\0<=g.sum
end Np
end Go.Proofs.YtadhigmjilijcaaGreatDoor
namespace Go.Proofs
open YtadhigmjilijcaaGreatDoor Tryz
open Go.Shelf
def Tryz.lays156_ren:Go.Shelf.Ren:=⟨fun | 156=>260 | 165=>288 | 166=>289 | 169=>290 | 240=>306 | 241=>307 | 276=>316 | 277=>317 | n=>n,fun | 31=>102 | 9=>9 | 3=>3 | 4=>4 | 0=>0 | 20=>20 | 72=>268 | 76=>272 | 70=>266 | 37=>108 | 75=>271 | 127=>284 | 164=>290 | 5=>5 | 80=>185 | n=>n,fun | n=>n⟩
theorem Tryz.lays156:Go.Proofs.Lays.n156 Tryz.prog Tryz.lays156_ren:={
 mixed:=by kernel_rfl
 f156:=func260.trans (aTJ)
 f165:=func288.trans (aTJ)
 f166:=func289.trans (aTJ)
 f169:=func290.trans (aTJ)
 f240:=func306.trans (aTJ)
 f241:=func307.trans (aTJ)
 f276:=func316.trans (aTJ)
 f277:=func317.trans (aTJ)
 t0:=underlying0
 a0:=isAgg0
 z0:=Tryz.sizeOf0
 v0:=Tryz.zeroValue0
 t3:=underlying3
 a3:=isAgg3
 z3:=Tryz.sizeOf3
 v3:=Tryz.zeroValue3
 t4:=underlying4
 a4:=isAgg4
 z4:=Tryz.sizeOf4
 v4:=Tryz.zeroValue4
 t9:=underlying9
 a9:=isAgg9
 z9:=Tryz.sizeOf9
 v9:=Tryz.zeroValue9
 t20:=underlying20
 a20:=isAgg20
 z20:=Tryz.sizeOf20
 v20:=Tryz.zeroValue20
 t31:=underlying102
 a31:=isAgg102
 z31:=Tryz.sizeOf102
 v31:=Tryz.zeroValue102
 t37:=underlying108
 a37:=isAgg108
 z37:=Tryz.sizeOf108
 v37:=Tryz.zeroValue108
 t70:=underlying266
 a70:=isAgg266
 z70:=Tryz.sizeOf266
 v70:=Tryz.zeroValue266
 t72:=underlying268
 a72:=isAgg268
 z72:=Tryz.sizeOf268
 v72:=Tryz.zeroValue268
 t75:=underlying271
 a75:=isAgg271
 z75:=Tryz.sizeOf271
 v75:=Tryz.zeroValue271
 t76:=underlying272
 a76:=isAgg272
 z76:=Tryz.sizeOf272
 v76:=Tryz.zeroValue272
 t127:=underlying284
 a127:=isAgg284
 z127:=Tryz.sizeOf284
 v127:=Tryz.zeroValue284
 t164:=underlying290
 a164:=isAgg290
 z164:=Tryz.sizeOf290
 v164:=Tryz.zeroValue290 }
theorem Tryz.Builder_Extra_156:Builder.Extra Tryz.prog Tryz.lays156_ren:={
 sizeBuilder:=by kernel_rfl
 liesBuilder:=by kernel_rfl
 t5:=underlying5
 a5:=isAgg5
 z5:=Tryz.sizeOf5
 v5:=Tryz.zeroValue5
 infoByte:=by kernel_rfl
 cellsByte:=by kernel_rfl
 sizeByte:=by kernel_rfl
 neB5:=by decide }
open Go.RowKit in
theorem Tryz.strings_Join(bk o c:Nat)(xs:List ByteArray)(sep:ByteArray)(w:World)(Gs:∀ (j:Nat) x,xs[j]?=some x->w.cell? ⟨bk,o+j,none⟩=some (.string x))(cw:bk<w.heap.size)(hN:xs.length<=140737488355328)(Gq:xs.length<=c)(hlen:(Lib.join (xs.map (·.data.toList)) sep.data.toList).length<=140737488355328) :
 Calls Tryz.prog 260 #[.slice (some ⟨bk,o,none⟩) xs.length c,.string sep] w (aUQ w.heap.size w (.string ⟨(Lib.join (xs.map (·.data.toList)) sep.data.toList).toArray⟩)):=Any.strings_Join Tryz.lays156 Tryz.Builder_Extra_156 bk o c xs sep w Gs cw hN Gq hlen
end Go.Proofs
namespace Go.Proofs.YtadhigmjilijcaaGreatDoor
open Go.Proofs.Tryz
section
open Go.ChangeShapes Go.WideShapes Go.ChangeAt Go.RowKit
theorem ML:prog.globalNamed "nameplan/record.rules" = some 0:=by kernel_rfl
theorem XK:(prog.globals[0]?).map (·.type)=some 132:=by kernel_rfl
theorem Wc:prog.cellsOf 131=8:=by kernel_rfl
theorem kK:prog.cellsOf 3=1:=by kernel_rfl
theorem Fp:prog.cellsOf 4=1:=by kernel_rfl
def nw:Value->DataW Unit
 | .int k n=>.lit (.int k n)
 | .bool b=>.lit (.bool b)
 | _=>.nil
theorem ahX:(Rows.laid_nameplan_record_rules:DataW Unit) = .agg ((List.range 9).map λ(k:Nat)=>.agg ((ip (Np.dF k)).toList.map nw)):=by
 rfl
section
variable {w:World} {base:Nat} {spare:Nat->Bool} {held:Bool} {fuel:Nat} {cs:List Value} {p:List MemPlace}
theorem AA{n:Int}(h:DataW.trod (λ_=>()) prog w base spare held fuel 3 cs=some (nw (.int .i64 n),p)):cs = [.int .i64 n]:=by
 obtain⟨m,rfl,hx,_⟩:=DataW.trod_int underlying3 h;simp only[nw,Prod.mk.injEq,DataW.lit.injEq,Lit.int.injEq] at hx;rw[hx.1.2]
theorem Id{b:Bool}(h:DataW.trod (λ_=>()) prog w base spare held fuel 4 cs=some (nw (.bool b),p)):cs = [.bool b]:=by
 obtain⟨m,rfl,hx⟩:=DataW.trod_bool underlying4 h;simp only[nw,Prod.mk.injEq,DataW.lit.injEq,Lit.bool.injEq] at hx;rw[hx.1]
theorem su{cs:List Value}{o:Nat}{v:Value}(h:(cs.drop o).take 1 = [v]):cs[o]?=some v:=by
 have:=Qd (·[0]?) h
 simpa [List.getElem?_take,List.getElem?_drop] using this
theorem P9{r:Np.Rule}(h:DataW.trod (λ_=>()) prog w base spare held fuel 131 cs=some (.agg ((ip r).toList.map nw),p)):∀ (j:Nat) (v:Value),(ip r).toList[j]?=some v->cs[j]?=some v:=by
 obtain⟨ys,n,_,hx,_,hlen,hf⟩:=DataW.trod_struct underlying131 h;simp only[Prod.mk.injEq,DataW.agg.injEq] at hx;have hy:∀ (j:Nat) (v:Value),(ip r).toList[j]?=some v->∃ q,ys[j]?=some (nw v,q):=λj v hj=>by
  have h1:(ys.map (·.1))[j]?=some (nw v):=by rw[<-hx.1];simp[hj]
  simp only[List.getElem?_map,Option.map_eq_some_iff] at h1;obtain⟨y,ZX,na⟩:=h1;exact⟨y.2,by rw[ZX,<-na]⟩
 intro j v hj;obtain⟨q,hq⟩:=hy j v hj
 match j,hj,hq with
 | 0,hj,hq=>simp[ip] at hj;subst hj;have:DataW.trod (λ_=>()) prog w base spare held n 3 ((cs.drop 0).take (prog.cellsOf 3))=ys[0]?:=hf 0 _ rfl;rw[hq,kK] at this;exact su (AA this)
 | 1,hj,hq=>simp[ip] at hj;subst hj;have:DataW.trod (λ_=>()) prog w base spare held n 3 ((cs.drop 1).take (prog.cellsOf 3))=ys[1]?:=hf 1 _ rfl;rw[hq,kK] at this;exact su (AA this)
 | 2,hj,hq=>simp[ip] at hj;subst hj;have:DataW.trod (λ_=>()) prog w base spare held n 3 ((cs.drop 2).take (prog.cellsOf 3))=ys[2]?:=hf 2 _ rfl;rw[hq,kK] at this;exact su (AA this)
 | 3,hj,hq=>simp[ip] at hj;subst hj;have:DataW.trod (λ_=>()) prog w base spare held n 3 ((cs.drop 3).take (prog.cellsOf 3))=ys[3]?:=hf 3 _ rfl;rw[hq,kK] at this;exact su (AA this)
 | 4,hj,hq=>simp[ip] at hj;subst hj;have:DataW.trod (λ_=>()) prog w base spare held n 3 ((cs.drop 4).take (prog.cellsOf 3))=ys[4]?:=hf 4 _ rfl;rw[hq,kK] at this;exact su (AA this)
 | 5,hj,hq=>simp[ip] at hj;subst hj;have:DataW.trod (λ_=>()) prog w base spare held n 4 ((cs.drop 5).take (prog.cellsOf 4))=ys[5]?:=hf 5 _ rfl;rw[hq,Fp] at this;exact su (Id this)
 | 6,hj,hq=>simp[ip] at hj;subst hj;have:DataW.trod (λ_=>()) prog w base spare held n 4 ((cs.drop 6).take (prog.cellsOf 4))=ys[6]?:=hf 6 _ rfl;rw[hq,Fp] at this;exact su (Id this)
 | 7,hj,hq=>simp[ip] at hj;subst hj;have:DataW.trod (λ_=>()) prog w base spare held n 4 ((cs.drop 7).take (prog.cellsOf 4))=ys[7]?:=hf 7 _ rfl;rw[hq,Fp] at this;exact su (Id this)
 | j+8,hj,_=>simp[ip] at hj
end
theorem Iu{W:World}{rest:List (String×DataW Unit)}(h:laidMet prog (("nameplan/record.rules",Rows.laid_nameplan_record_rules)::rest) W):bL W W.heap.size:=by
 obtain⟨ps,⟨g',t',cs,fuel,p,q,hg',ht',ZN,hd,_,_⟩,_⟩:=h;obtain rfl:=Option.some.inj (ML.symm.trans hg');obtain rfl:=Option.some.inj (XK.symm.trans ht');rw[ahX] at hd;obtain⟨xs,m,_,hx,_,hlen,hf⟩:=DataW.trod_array underlying132 hd;simp only[Prod.mk.injEq,DataW.agg.injEq] at hx;have hcell:∀ (i:Nat) (v:Value),cs[i]?=some v->W.cell? ⟨0,i,none⟩=some v:=λi v hi=>by rw[World.var?_cell ML ZN i];exact hi
 refine⟨?_,λk hk j v hj=>?_⟩
 ·have h0:=hf 0 (by omega);obtain⟨x0,eO⟩:∃ x,xs[0]?=some x:=⟨_,aQ (by omega)⟩;rw[eO] at h0;have h1:x0.1 = .agg ((ip (Np.dF (0:Nat))).toList.map nw):=by
   have:(xs.map (·.1))[0]?=some (.agg ((ip (Np.dF (0:Nat))).toList.map nw)):=by rw[<-hx.1];rfl
   rw[List.getElem?_map,eO] at this;simpa using this
  rw[show x0=(x0.1,x0.2) from rfl,h1] at h0;have h2:=P9 h0 0 _ rfl;simp only[Nat.zero_mul,List.drop_zero,List.getElem?_take] at h2;split at h2
  ·exact World.block_lt_of_cell? _ _ (hcell 0 _ (by simpa using h2))
  ·cases h2
 ·have h0:=hf k hk;obtain⟨x0,eO⟩:∃ x,xs[k]?=some x:=⟨_,aQ (by omega)⟩;rw[eO] at h0;have h1:x0.1 = .agg ((ip (Np.dF k)).toList.map nw):=by
   have:(xs.map (·.1))[k]?=some (.agg ((ip (Np.dF k)).toList.map nw)):=by rw[<-hx.1,List.getElem?_map,List.getElem?_range hk];rfl
   rw[List.getElem?_map,eO] at this;simpa using this
  rw[show x0=(x0.1,x0.2) from rfl,h1] at h0;have h2:=P9 h0 j v hj;rw[Wc,List.getElem?_take] at h2;split at h2
  ·rw[List.getElem?_drop] at h2;exact hcell _ _ (by simpa using h2)
  ·cases h2
end
end Go.Proofs.YtadhigmjilijcaaGreatDoor
namespace Go.Proofs
open YtadhigmjilijcaaGreatDoor Tryz
open Go.Shelf
end Go.Proofs
namespace Go.Proofs.YtadhigmjilijcaaGreatDoor
open Go.Proofs.Tryz
section
open Go.RowKit
section
variable {P:Program} {ops:Array Oper} {md:Region.Mode} {C:World->Prop}
end
section
variable {P:Program} {ops:Array Oper} {md:Region.Mode} {C:World->Prop} {Q:Exit->Act->World->Prop}
theorem Ij(a:Act)(d:Nat)(v:Value)(h:d<a.tmps.size):(a.put (some d) v).eval (.tmp d)=v:=by
 simp[Act.put,Act.eval,h]
theorem AD(a:Act)(d j:Nat)(v:Value)(h:d≠j):(a.put (some d) v).eval (.tmp j)=a.eval (.tmp j):=by
 simp[Act.put,Act.eval,h,Array.getD_eq_getD_getElem?]
structure jJ(ops:Array Oper)(D:List Nat)(dst:Nat->Nat)(val:Nat->Value)(base:List (Nat×Value))(m:Nat)(ds:List Deferred)(f:Nat)(listed:Array Bool)(a:Act):Prop where
 defs:a.defers=ds
 size:listed.size=ops.size
 left:listed.toList.count false=f
 not:∀ i,i<ops.size->i∉D->listed.getD i true=false
 val:∀ i∈D,listed.getD i false=true->a.eval (.tmp (dst i))=val i
 base:∀ q∈base,a.eval (.tmp q.1)=q.2
 tmps:a.tmps.size=m
theorem jJ.step{ds:List Deferred}{D:List Nat}{dst:Nat->Nat}{val:Nat->Value}{base:List (Nat×Value)}{m f:Nat}{listed:Array Bool}{a:Act}{i:Nat}{o:Oper}(hg:jJ ops D dst val base m ds (f+1) listed a)(hi:i∈D)(hr:listed.getD i true=false)(ho:ops[i]?=some o)(hd:o.dst=some (dst i))(af:dst i<m)
 (qZ:∀ j∈D,j≠i->dst i≠dst j) (hb:∀ q∈base,dst i≠q.1) (hy:YieldsIn P ops C o (val i) a):qOp P ops C i (jJ ops D dst val base m ds f (listed.setIfInBounds i true)) a:=by
 refine hy.qOp ho ?_;rw[hd];have Y9:i<ops.size:=(eQ.1 ho).1;have i3:i<listed.size:=by rw[hg.size];exact Y9
 have ka:listed[i]=false:=by simpa [Array.getD,i3] using hr
 refine⟨by simp[Act.put,hg.defs],by simp[hg.size],?_,?_,?_,?_,?_⟩
 ·have h1:=hg.left;rw[Array.toList_setIfInBounds,List.count_set (by simpa using i3)];simp[ka,h1]
 ·intro j hj i4;have hne:i≠j:=λe=>i4 (e ▸ hi)
  have:=hg.not j hj i4
  simpa [Array.getD,hg.size,hj,Array.getElem_setIfInBounds,hne] using this
 ·intro j hj hl;by_cases hne:i=j
  ·subst hne;exact Ij a _ _ (by rw[hg.tmps];exact af)
  ·rw[AD _ _ _ _ (qZ j hj (λe=>hne e.symm))];refine hg.val j hj ?_;by_cases uF:j<listed.size
   ·simpa [Array.getD,uF,Array.getElem_setIfInBounds,hne] using hl
   ·simp[Array.getD,uF] at hl
 ·intro q hq;rw[AD _ _ _ _ (hb q hq)];exact hg.base q hq
 ·simp[Act.put,hg.tmps]
theorem jJ.none{ds:List Deferred}{D:List Nat}{dst:Nat->Nat}{val:Nat->Value}{base:List (Nat×Value)}{m:Nat}{listed:Array Bool}{a:Act}{p:Nat}(hp:p<ops.size)(jw:p∉D):¬ jJ ops D dst val base m ds 0 listed a:=λhg=>by
 have h1:=hg.not p hp jw;have i3:p<listed.size:=by rw[hg.size];exact hp
 have ka:listed[p]=false:=by simpa [Array.getD,i3] using h1
 have h2:=hg.left;rw[List.count_eq_zero] at h2;exact h2 (by rw[<-ka];simp)
theorem jJ.start{D:List Nat}{dst:Nat->Nat}{val:Nat->Value}{base:List (Nat×Value)}{m:Nat}{a:Act}(hb:∀ q∈base,a.eval (.tmp q.1)=q.2)(hm:a.tmps.size=m):jJ ops D dst val base m a.defers ops.size (Array.replicate ops.size false) a:=
 ⟨rfl,by simp,by simp,λi hi _=>by simp[Array.getD,hi],λi _ h=>by simp[Array.getD] at h,hb,hm⟩
theorem asK{listed:Array Bool}(hw:∀ (i:Nat) (o:Oper),ops[i]?=some o->∀ e∈o.after,e.on<i)(au:listed.size=ops.size):∀ p,p<ops.size->listed.getD p true=false->Region.ready md ops listed≠[]:=by
 intro p
 induction p using Nat.strongRecOn with
 | _ p ih=>
  intro hp hl;by_cases cX:∀ e∈(ops[p]).after,Region.binds md e=true->listed.getD e.on false=true
  ·intro h0
   have:p∈Region.ready md ops listed:=mem_ready.2 ⟨hl,ops[p],pQ hp,cX⟩
   rw[h0] at this
   cases this
  ·simp only[Classical.not_forall] at cX;obtain⟨e,he,hb,hne⟩:=cX;have af:=hw p _ (pQ hp) e he;refine ih e.on af (by omega) ?_;have h1:e.on<listed.size:=by omega
   simpa [Array.getD,h1] using hne
def IZ(ops:Array Oper):Bool:=(List.range ops.size).all λi=>match ops[i]? with
 | some o=>o.after.all λe=>decide (e.on<i)
 | none=>true
def IY(ops:Array Oper)(D:List Nat)(p:Nat):Bool:=(List.range ops.size).all λi=>D.contains i||i == p||match ops[i]? with
 | some o=>o.after.any λe=>Region.binds .any e&&!D.contains e.on&&decide (e.on<ops.size)
 | none=>true
theorem aMX(h:IZ ops=true):∀ (i:Nat) (o:Oper),ops[i]?=some o->∀ e∈o.after,e.on<i:=by
 intro i o ho e he;unfold IZ at h;rw[List.all_eq_true] at h;have h1:=h i (by rw[List.mem_range];exact (eQ.1 ho).1);rw[ho] at h1;simp only[Array.all_eq_true_iff_forall_mem,Qa] at h1;exact h1 e he
theorem aLK{D:List Nat}{p:Nat}(h:IY ops D p=true):∀ (i:Nat) (o:Oper),ops[i]?=some o->i∉D->i≠p->∃ e∈o.after,Region.binds .any e=true/\e.on∉D/\e.on<ops.size:=by
 intro i o ho hD hp;unfold IY at h;rw[List.all_eq_true] at h;have h1:=h i (by rw[List.mem_range];exact (eQ.1 ho).1);rw[ho] at h1;simp only[Bool.or_eq_true,List.contains_iff_mem,hD,beq_iff_eq,hp,false_or] at h1;rw[Array.any_eq_true'] at h1;obtain⟨e,he,h2⟩:=h1;simp only[Bool.and_eq_true,Bool.not_eq_true',Qa] at h2;have h3:e.on∉D:=λhm=>by
  have:=h2.1.2
  rw[List.contains_iff_mem.2 hm] at this
  cases this
 exact⟨e,he,h2.1.1,h3,h2.2⟩
end
section
variable {P:Program} {ops:Array Oper} {Q:Exit->Act->World->Prop}
structure Held(ops:Array Oper)(D A:List Nat)(dst:Nat->Nat)(val:Nat->Value)(base:List (Nat×Value))(m:Nat)(ds:List Deferred)(f:Nat)(listed:Array Bool)(a:Act):Prop where
 good:jJ ops D dst val base m ds f listed a
 done:∀ i∈A,listed.getD i false=true
 clo:∀ j o,ops[j]?=some o->listed.getD j false=true->∀ e∈o.after,Region.binds .any e=true->listed.getD e.on false=true
theorem DH{listed:Array Bool}{i j:Nat}(h:(listed.setIfInBounds i true).getD j false=true):j=i\/listed.getD j false=true:=by
 by_cases mo:i=j
 ·exact .inl mo.symm
 ·rw[getD_set_ne false mo] at h;exact .inr h
theorem tm{listed:Array Bool}{i j:Nat}(h:listed.getD j false=true):(listed.setIfInBounds i true).getD j false=true:=by
 by_cases mo:i=j
 ·subst mo;have hl:i<listed.size:=by
   by_cases hl:i<listed.size
   ·exact hl
   ·simp[Array.getD,hl] at h
  simp[Array.getD,hl]
 ·rw[getD_set_ne false mo];exact h
theorem yN{listed:Array Bool}{i:Nat}(hr:i∈Region.ready .any ops listed)(h:∀ j o,ops[j]?=some o->listed.getD j false=true->∀ e∈o.after,Region.binds .any e=true->listed.getD e.on false=true) :
 ∀ j o,ops[j]?=some o->(listed.setIfInBounds i true).getD j false=true->∀ e∈o.after,Region.binds .any e=true->(listed.setIfInBounds i true).getD e.on false=true:=λj o ho hj e he hb=>by
 refine tm ?_;rcases DH hj with rfl | hj
 ·obtain⟨_,o',ho',cX⟩:=mem_ready.1 hr;rw[ho] at ho';cases ho';exact cX e he hb
 ·exact h j o ho hj e he hb
theorem Held.act{D A D':List Nat}{dst:Nat->Nat}{val val':Nat->Value}{base:List (Nat×Value)}{m p f:Nat}{ds:List Deferred}{listed:Array Bool}{a:Act}{v:Value}(h:Held ops D A dst val base m ds (f+1) listed a)(hp:p∈Region.ready .any ops listed)
 (jw:p∉D) (hD:∀ i,i∉D'->i∉D/\i≠p) (hval:∀ i∈D,val' i=val i) (He:val' p=v) (af:dst p<m) (qZ:∀ j∈D,dst p≠dst j) (hb:∀ q∈base,dst p≠q.1) (ej:p<ops.size) :
 Held ops D' (p::A) dst val' base m ds f (listed.setIfInBounds p true) (a.put (some (dst p)) v):=by
 have hg:=h.good;have Ao:=(mem_ready.1 hp).1;have i3:p<listed.size:=by rw[hg.size];exact ej
 have ka:listed[p]=false:=by simpa [Array.getD,i3] using Ao
 refine⟨⟨by simp[Act.put,hg.defs],by simp[hg.size],?_,?_,?_,?_,by simp[Act.put,hg.tmps]⟩,?_,yN hp h.clo⟩
 ·have h1:=hg.left;rw[Array.toList_setIfInBounds,List.count_set (by simpa using i3)];simp[ka,h1]
 ·intro j hj i4;obtain⟨h1,h2⟩:=hD j i4
  have:=hg.not j hj h1
  rw[getD_set_ne true (λe=>h2 e.symm)];exact this
 ·intro j hj hl;rcases DH hl with rfl | hl
  ·rw[He];exact Ij a _ _ (by rw[hg.tmps];exact af)
  ·have i4:j∈D:=Decidable.byContradiction λi4=>by
    by_cases uG:j<ops.size
    ·have h1:=hg.not j uG i4;have h3:j<listed.size:=by rw[hg.size];exact uG
     simp[Array.getD,h3] at h1 hl;rw[h1] at hl;cases hl
    ·have h3:¬ j<listed.size:=by rw[hg.size];exact uG
     simp[Array.getD,h3] at hl
   rw[AD _ _ _ _ (qZ j i4),hval j i4];exact hg.val j i4 hl
 ·intro q hq;rw[AD _ _ _ _ (hb q hq)];exact hg.base q hq
 ·intro i hi;rcases List.mem_cons.1 hi with rfl | hi
  ·simp[Array.getD,i3]
  ·exact tm (h.done i hi)
def Hw(ops:Array Oper)(p:Nat):Bool:=(List.range ops.size).all λi=>i == p||(List.range ops.size).any λj=>decide (i<j)&&match ops[j]? with
 | some o=>o.after.any λe=>Region.binds .any e&&e.on == i
 | none=>false
theorem Held.all{D A:List Nat}{dst:Nat->Nat}{val:Nat->Value}{base:List (Nat×Value)}{m p f:Nat}{ds:List Deferred}{listed:Array Bool}{a:Act}(h:Held ops D A dst val base m ds (f+1) listed a)(hp:p∈Region.ready .any ops listed)(hl:Hw ops p=true) :
 f=0/\∀ i,i<ops.size->i≠p->listed.getD i false=true:=by
 unfold Hw at hl;rw[List.all_eq_true] at hl;have key:∀ k i,ops.size - i=k->i<ops.size->i≠p->listed.getD i false=true:=by
  intro k
  induction k using Nat.strongRecOn with
  | ind k ih=>
   intro i hk his hip;have h1:=hl i (by rw[List.mem_range];exact his);simp only[Bool.or_eq_true,beq_iff_eq,hip,false_or,List.any_eq_true,List.mem_range,Bool.and_eq_true,Qa] at h1;obtain⟨j,hj,mo,h2⟩:=h1;rw[pQ hj] at h2;simp only[Array.any_eq_true',Bool.and_eq_true,beq_iff_eq] at h2;obtain⟨e,he,hb,rfl⟩:=h2;by_cases zM:j=p
   ·subst zM;obtain⟨_,o,ho,cX⟩:=mem_ready.1 hp;rw[pQ hj] at ho
    cases ho
    exact cX e he hb
   ·exact h.clo j _ (pQ hj) (ih (ops.size - j) (by omega) j rfl hj zM) e he hb
 have ej:p<ops.size:=by
  obtain⟨_,o,ho,_⟩:=mem_ready.1 hp;exact (eQ.1 ho).1
 refine⟨?_,λi hi hne=>key _ i rfl hi hne⟩;have au:=h.good.size;have a2J:=h.good.left;have hc:listed.toList.count false<=1:=by
  have uN:p<listed.toList.length:=by simp[au,ej]
  have cX:∀ j (hj:j<listed.toList.length),j≠p->listed.toList[j]=true:=λj hj hne=>by
   have hj':j<listed.size:=by simpa using hj
   have:=key _ j rfl (by rw[<-au];exact hj') hne
   simpa [Array.getD,hj'] using this
  have e:listed.toList=listed.toList.take p++listed.toList[p]::listed.toList.drop (p+1):=by
   rw[<-sQ uN,List.take_append_drop]
  rw[e,List.count_append,List.count_cons];have c1:(listed.toList.take p).count false=0:=List.count_eq_zero.2 λhm=>by
   obtain⟨j,hj,uE⟩:=nQ.1 hm;rw[List.getElem_take] at uE;rw[List.length_take] at hj;rw[cX j (by omega) (by omega)] at uE
   cases uE
  have c2:(listed.toList.drop (p+1)).count false=0:=List.count_eq_zero.2 λhm=>by
   obtain⟨j,hj,uE⟩:=nQ.1 hm;rw[List.getElem_drop] at uE;rw[List.length_drop] at hj;rw[cX _ (by omega) (by omega)] at uE
   cases uE
  rw[c1,c2];split<;>omega
 omega
theorem Held.start{D:List Nat}{dst:Nat->Nat}{val:Nat->Value}{base:List (Nat×Value)}{m:Nat}{a:Act}(hb:∀ q∈base,a.eval (.tmp q.1)=q.2)(hm:a.tmps.size=m):Held ops D [] dst val base m a.defers ops.size (Array.replicate ops.size false) a:=
 ⟨jJ.start hb hm,(λ_ h=>by cases h),λj o ho hj=>by simp[Array.getD] at hj⟩
end
end
end Go.Proofs.YtadhigmjilijcaaGreatDoor
namespace Go.Proofs
open YtadhigmjilijcaaGreatDoor Tryz
open Go.Shelf
def Tryz.lays138_ren:Go.Shelf.Ren:=⟨fun | 138=>223 | 195=>272 | 218=>273 | 143=>274 | 219=>296 | 217=>255 | 225=>309 | 224=>310 | 267=>311 | 266=>285 | 314=>318 | n=>n,fun | 9=>9 | 3=>3 | 4=>4 | 5=>5 | 0=>0 | 46=>237 | 146=>293 | 51=>258 | n=>n,fun | 1=>1 | n=>n⟩
theorem Tryz.lays138:Go.Proofs.Lays.n138 Tryz.prog Tryz.lays138_ren:={
 mixed:=by kernel_rfl
 f138:=func223.trans (aTJ)
 f143:=func274.trans (aTJ)
 f195:=func272.trans (aTJ)
 f217:=func255.trans (aTJ)
 f218:=func273.trans (aTJ)
 f219:=func296.trans (aTJ)
 f224:=func310.trans (aTJ)
 f225:=func309.trans (aTJ)
 f266:=func285.trans (aTJ)
 f267:=func311.trans (aTJ)
 f314:=func318.trans (aTJ)
 t0:=underlying0
 a0:=isAgg0
 z0:=Tryz.sizeOf0
 v0:=Tryz.zeroValue0
 t3:=underlying3
 a3:=isAgg3
 z3:=Tryz.sizeOf3
 v3:=Tryz.zeroValue3
 t4:=underlying4
 a4:=isAgg4
 z4:=Tryz.sizeOf4
 v4:=Tryz.zeroValue4
 t5:=underlying5
 a5:=isAgg5
 z5:=Tryz.sizeOf5
 v5:=Tryz.zeroValue5
 t9:=underlying9
 a9:=isAgg9
 z9:=Tryz.sizeOf9
 v9:=Tryz.zeroValue9
 t46:=underlying237
 a46:=isAgg237
 z46:=Tryz.sizeOf237
 v46:=Tryz.zeroValue237
 t51:=underlying258
 a51:=isAgg258
 z51:=Tryz.sizeOf258
 v51:=Tryz.zeroValue258
 t146:=underlying293
 a146:=isAgg293
 z146:=Tryz.sizeOf293
 v146:=Tryz.zeroValue293
 g1:=by kernel_rfl }
open Go.RowKit Go.Lib in
theorem Tryz.strings_Count_one(s:ByteArray)(c:UInt8)(w:World) :
 Calls Tryz.prog 223 #[.string s,.string ⟨#[c]⟩] w λe w'=>e = .returned (.int .i64 (Lib.countByte s.data.toList c))/\w'=w:=Any.strings_Count_one Tryz.lays138 s c w
end Go.Proofs
namespace Go.Proofs.YtadhigmjilijcaaGreatDoor
open Go.Proofs.Tryz
section
open Go.RowKit
theorem asJ{md:Region.Mode}{ops:Array Oper}{listed:Array Bool}(h:∀ i,i<ops.size->listed.getD i false=true)(hs:listed.size=ops.size):Region.ready md ops listed = []:=by
 apply List.eq_nil_iff_forall_not_mem.2;intro i hi;obtain⟨h1,o,ho,_⟩:=mem_ready.1 hi;have af:=(eQ.1 ho).1;have h2:=h i af;have h3:i<listed.size:=by rw[hs];exact af
 simp[Array.getD,h3] at h1 h2;rw[h1] at h2;cases h2
def nb(a:Act):List (Nat×Value)->Act
 | []=>a
 | q::l=>nb (a.put (some q.1) q.2) l
theorem VQ{a b:Act}(hs:a.tmps.size=b.tmps.size)(hd:a.defers=b.defers)(h:∀ j,a.eval (.tmp j)=b.eval (.tmp j)):a=b:=by
 obtain⟨t,d⟩:=a;obtain⟨t',d'⟩:=b;simp only at hs hd;subst hd;congr 1;apply Array.ext hs;intro i h1 h2
 have:=h i
 simpa [Act.eval,Array.getD_eq_getD_getElem?,h1,h2] using this
theorem arQ{a a0:Act}(hs:a.tmps.size=a0.tmps.size)(hd:a.defers=a0.defers):∀ (l:List (Nat×Value)),(∀ q∈l,q.1<a0.tmps.size)->(∀ q∈l,a.eval (.tmp q.1)=q.2)->(∀ j,(∀ q∈l,q.1≠j)->a.eval (.tmp j)=a0.eval (.tmp j))->a=nb a0 l:=by
 intro l
 induction l generalizing a0 with
 | nil=>intro _ _ h;exact VQ hs hd (λj=>h j (λq hq=>by cases hq))
 | cons q l ih=>
  intro af h1 h2;rw[nb];refine ih (by simpa [Act.put] using hs) (by simpa [Act.put] using hd) (λp hp=>by have:=af p (mQ _ hp);simpa [Act.put] using this) (λp hp=>h1 p (mQ _ hp)) (λj hj=>?_);by_cases hq:q.1=j
  ·subst hq;rw[Ij _ _ _ (af q (by simp))];exact h1 q (by simp)
  ·rw[AD _ _ _ _ hq];refine h2 j (λp hp=>?_);rcases List.mem_cons.1 hp with rfl | hp
   ·exact hq
   ·exact hj p hp
def gJ(a0:Act)(m:Nat)(ds:List Nat):List (Nat×Value):=((List.range m).filter λj=>!ds.contains j).map λj=>(j,a0.eval (.tmp j))
theorem atK{a0:Act}{m:Nat}{ds:List Nat} : ∀ q∈gJ a0 m ds,a0.eval (.tmp q.1)=q.2:=λq hq=>by
 obtain⟨j,_,rfl⟩:=List.mem_map.1 hq;rfl
theorem DQ{a0:Act}{m:Nat}{ds:List Nat}{d:Nat}(hd:d∈ds):∀ q∈gJ a0 m ds,d≠q.1:=λq hq e=>by
 obtain⟨j,hj,rfl⟩:=List.mem_map.1 hq
 have:=(List.mem_filter.1 hj).2
 simp only at e;subst e;simp[hd] at this
theorem bG{a0 a:Act}{m:Nat}{ds:List Nat}(h:∀ q∈gJ a0 m ds,a.eval (.tmp q.1)=q.2){j:Nat}(hj:j<m)(hd:j∉ds):a.eval (.tmp j)=a0.eval (.tmp j):=
 h (j,a0.eval (.tmp j)) (List.mem_map.2 ⟨j,List.mem_filter.2 ⟨List.mem_range.2 hj,by simpa using hd⟩,rfl⟩)
theorem QU{P:Program}{c:Code}{Q:Exit->Act->World->Prop}{a:Act}{w:World}(h:∀ a0,a0=a->c.wp P Q a0 w):c.wp P Q a w:=h a rfl
variable {ops:Array Oper}
theorem Held.frame{D A:List Nat}{dst:Nat->Nat}{val:Nat->Value}{m f:Nat}{listed:Array Bool}{a a0:Act}(h:Held ops D A dst val (gJ a0 m (D.map dst)) m a0.defers f listed a)(hm:a0.tmps.size=m)(cX:∀ i∈D,listed.getD i false=true)(af:∀ i∈D,dst i<m) :
 a=nb a0 (D.map λi=>(dst i,val i)):=by
 refine arQ (by rw[h.good.tmps,hm]) h.good.defs _ (λq hq=>?_) (λq hq=>?_) (λj hj=>?_)
 ·obtain⟨i,hi,rfl⟩:=List.mem_map.1 hq;rw[hm];exact af i hi
 ·obtain⟨i,hi,rfl⟩:=List.mem_map.1 hq;exact h.good.val i hi (cX i hi)
 ·by_cases Om:j<m
  ·refine bG h.good.base Om (λhd=>?_);obtain⟨i,hi,rfl⟩:=List.mem_map.1 hd;exact hj _ (List.mem_map.2 ⟨i,hi,rfl⟩) rfl
  ·have h1:=h.good.tmps;simp[Act.eval,Array.getD_eq_getD_getElem?,h1,hm,Om]
theorem aTK{a0 a:Act}{m:Nat}{ds:List Nat}(h:∀ q∈gJ a0 m ds,a.eval (.tmp q.1)=q.2){j:Nat}{v:Value}(e:a0.eval (.tmp j)=v)(hj:j<m:=by decide)(hd:j∉ds:=by decide):a.eval (.tmp j)=v:=(bG h hj hd).trans e
end
namespace D
open Go.RowKit
structure Below(B:Nat)(w w':World):Prop where
 os:w'.os=w.os
 tape:w'.tape=w.tape
 output:w'.output=w.output
 size:w.heap.size<=w'.heap.size
 block:∀ k,k<B->w'.heap[k]?=w.heap[k]?
 drawn:w.drawn<=w'.drawn
theorem Below.low{B:Nat}{w w':World}(h:Below B w w'):Go.RowKit.Below B w w':=⟨h.os,h.tape,h.output,h.size,h.block⟩
theorem vQ(B:Nat)(w:World):Below B w w:=⟨rfl,rfl,rfl,bQ _,λ_ _=>rfl,bQ _⟩
theorem Below.trans{B:Nat}{a b c:World}(h:Below B a b)(k:Below B b c):Below B a c:=
 ⟨k.os.trans h.os,k.tape.trans h.tape,k.output.trans h.output,yQ h.size k.size,λi hi=>(k.block i hi).trans (h.block i hi),yQ h.drawn k.drawn⟩
theorem Below.mono{B B':Nat}{w w':World}(h:Below B w w')(hB:B'<=B):Below B' w w':=⟨h.os,h.tape,h.output,h.size,λk hk=>h.block k (lqQ hk hB),h.drawn⟩
theorem Below.drew{B:Nat}{a w:World}(h:Below B a w):Below B a w.drew:=⟨h.os,h.tape,h.output,h.size,h.block,Nat.le_succ_of_le h.drawn⟩
theorem Below.heap_alloc(w:World)(o:Obj)(k:Nat)(h:k<w.heap.size):(w.alloc o).heap[k]?=w.heap[k]?:=Go.RowKit.Below.heap_alloc w o k h
theorem wQ(w:World)(a:Addr)(u:Value)(k:Nat)(h:k≠a.block):(w.setCell a u).heap[k]?=w.heap[k]?:=Go.RowKit.Below.heap_setCell w a u k h
theorem Below.alloc{B:Nat}{a w:World}(h:Below B a w)(hB:B<=w.heap.size)(o:Obj):Below B a (w.alloc o):=
 h.trans ⟨rfl,rfl,rfl,by simp,λk hk=>Below.heap_alloc _ _ _ (by omega),bQ _⟩
theorem Below.setCell{B:Nat}{a w:World}(h:Below B a w){p:Addr}(hp:B<=p.block)(u:Value):Below B a (w.setCell p u):=
 h.trans ⟨rfl,rfl,rfl,by simp[World.setCell],λk hk=>wQ _ _ _ _ (by omega),bQ _⟩
theorem Below.cell{B:Nat}{w w':World}(h:Below B w w'){p:Addr}(hp:p.block<B):w'.cell? p=w.cell? p:=h.low.cell hp
theorem Below.frozen{B:Nat}{w w':World}(h:Below B w w'){p:Addr}(hp:p.block<B):w'.frozen? p=w.frozen? p:=h.low.frozen hp
structure ItStep(B:Nat)(S:Nat->Prop)(W W':World):Prop where
 os:W'.os=W.os
 tape:W'.tape=W.tape
 output:W'.output=W.output
 size:W.heap.size<=W'.heap.size
 keep:∀ k,k<W.heap.size->(k<B\/S k)->W'.heap[k]?=W.heap[k]?
 drawn:W.drawn<=W'.drawn
structure RdStep(S:Nat->Prop)(W W':World):Prop where
 os:W'.os=W.os
 tape:W'.tape=W.tape
 output:W'.output=W.output
 size:W.heap.size<=W'.heap.size
 keep:∀ k,k<W.heap.size->¬ S k->W'.heap[k]?=W.heap[k]?
 drawn:W.drawn<=W'.drawn
theorem ItStep.refl(B:Nat)(S:Nat->Prop)(W:World):ItStep B S W W:=⟨rfl,rfl,rfl,bQ _,λ_ _ _=>rfl,bQ _⟩
theorem RdStep.refl(S:Nat->Prop)(W:World):RdStep S W W:=⟨rfl,rfl,rfl,bQ _,λ_ _ _=>rfl,bQ _⟩
theorem ItStep.trans{B:Nat}{S:Nat->Prop}{A W C:World}(h:ItStep B S A W)(k:ItStep B S W C):ItStep B S A C:=
 ⟨k.os.trans h.os,k.tape.trans h.tape,k.output.trans h.output,yQ h.size k.size,λi hi hs=>(k.keep i (lqQ hi h.size) hs).trans (h.keep i hi hs),yQ h.drawn k.drawn⟩
theorem RdStep.trans{S S':Nat->Prop}{A W C:World}(h:RdStep S A W)(k:RdStep S' W C)(hS:∀ i,S' i->S i\/A.heap.size<=i):RdStep S A C:=
 ⟨k.os.trans h.os,k.tape.trans h.tape,k.output.trans h.output,yQ h.size k.size,λi hi hs=>
  (k.keep i (lqQ hi h.size) (λe=>by rcases hS i e with e | e;exact hs e;omega)).trans (h.keep i hi hs),yQ h.drawn k.drawn⟩
theorem RdStep.mono{S S':Nat->Prop}{A W:World}(h:RdStep S A W)(hS:∀ i,S i->S' i):RdStep S' A W:=
 ⟨h.os,h.tape,h.output,h.size,λi hi hs=>h.keep i hi (λe=>hs (hS i e)),h.drawn⟩
theorem ItStep.of_below{B:Nat}{S:Nat->Prop}{A W:World}(h:Below A.heap.size A W):ItStep B S A W:=
 ⟨h.os,h.tape,h.output,h.size,λk hk _=>h.block k hk,h.drawn⟩
theorem RdStep.of_below{S:Nat->Prop}{A W:World}(h:Below A.heap.size A W):RdStep S A W:=
 ⟨h.os,h.tape,h.output,h.size,λk hk _=>h.block k hk,h.drawn⟩
theorem RdStep.below{S:Nat->Prop}{A W:World}{n:Nat}(h:RdStep S A W)(hn:n<=A.heap.size)(hS:∀ k,S k->n<=k):Below n A W:=
 ⟨h.os,h.tape,h.output,h.size,λk hk=>h.keep k (by omega) (λe=>by have:=hS k e;omega),h.drawn⟩
theorem RdStep.setCell{S:Nat->Prop}{A W:World}(h:RdStep S A W){p:Addr}(hp:S p.block\/A.heap.size<=p.block)(u:Value):RdStep S A (W.setCell p u):=
 ⟨h.os,h.tape,h.output,by simpa [World.setCell] using h.size,λk hk hs=>(wQ _ _ _ _ (by rintro rfl;rcases hp with hp | hp;exact hs hp;omega)).trans (h.keep k hk hs),h.drawn⟩
theorem RdStep.alloc{S:Nat->Prop}{A W:World}(h:RdStep S A W)(o:Obj):RdStep S A (W.alloc o):=
 ⟨h.os,h.tape,h.output,yQ h.size (by simp),λk hk hs=>(Below.heap_alloc _ _ _ (lqQ hk h.size)).trans (h.keep k hk hs),h.drawn⟩
theorem RdStep.drew{S:Nat->Prop}{A W:World}(h:RdStep S A W):RdStep S A W.drew:=⟨h.os,h.tape,h.output,h.size,h.keep,Nat.le_succ_of_le h.drawn⟩
def fN{β:Type}(B:Nat)(J:β->(Nat->Prop)->World->Prop):Prop:=∀ s S W W',J s S W->ItStep B S W W'->J s S W'
def yJ{α:Type}(J Jx:List α->(Nat->Prop)->World->Prop)(pre:List α)(x:α)(S:Nat->Prop)(W:World)(e:Ending)(W':World):Prop:=
 ∃ S':Nat->Prop,RdStep S W W'/\(∀ k,S' k->S k\/W.heap.size<=k)/\(∀ k,S' k->k<W'.heap.size)/\
   ((e = .returned (.bool true)/\J (pre ++ [x]) S' W')\/(e = .returned (.bool false)/\Jx (pre ++ [x]) S' W'))
def tX{α:Type}(P:Program)(gf:FuncId)(mk:Value->Array Value)(encs:α->Array Value)(xs:List α)(n₀:Nat)(w:World):Prop:=
 ∀ (l:Nat) (J Jx:List α->(Nat->Prop)->World->Prop) (S:Nat->Prop) (W:World),Below n₀ w W->
   fN W.heap.size J->fN W.heap.size Jx->
   (∀ pre x S1 W1,pre ++ [x] <+: xs->J pre S1 W1->(∀ k,S1 k->k<W1.heap.size)->W.heap.size<=W1.heap.size->
     YieldAt Fence.wide 0 P l (encs x) W1 (yJ J Jx pre x S1 W1))->
   (∀ k,S k->n₀<=k)->(∀ k,S k->k<W.heap.size)->J [] S W->
   CallsIn Fence.wide 0 P gf (mk (.func (.yield l) #[] #[])) W λe W'=>(∃ v,e = .returned v)/\
    ((∃ S',J xs S' W'/\(∀ k,S' k->S k\/W.heap.size<=k))\/(∃ pre S',pre <+: xs/\Jx pre S' W'/\(∀ k,S' k->S k\/W.heap.size<=k)))
def ic{α:Type}(I:List α->(Nat->Prop)->World->Prop)(Ix:Code->List α->(Nat->Prop)->World->Prop)(xs:List α)(S:Nat->Prop)(W:World):Exit->Act->World->Prop
 | .normal,_,W'=>∃ S',RdStep S W W'/\(∀ k,S' k->S k\/W.heap.size<=k)/\(∀ k,S' k->k<W'.heap.size)/\I xs S' W'
 | .ret,_,W'=>∃ S',RdStep S W W'/\(∀ k,S' k->S k\/W.heap.size<=k)/\(∀ k,S' k->k<W'.heap.size)/\Ix .ret xs S' W'
 | .exit id,_,W'=>∃ S',RdStep S W W'/\(∀ k,S' k->S k\/W.heap.size<=k)/\(∀ k,S' k->k<W'.heap.size)/\Ix (.exit id) xs S' W'
 | _,_,_=>False
theorem mB{B:Nat}{S:Nat->Prop}{W:World}{l:Nat}(o:Obj)(hl:B<=l)(hS:¬ S l):ItStep B S W (W.putObj l o):=
 ⟨rfl,rfl,rfl,by simp,λk _ hk=>zQ (by rintro rfl;rcases hk with hk | hk;omega;exact hS hk),bQ _⟩
theorem qe{B:Nat}{S:Nat->Prop}{W:World}(o:Obj):ItStep B S W (W.alloc o):=
 ⟨rfl,rfl,rfl,by simp,λk hk _=>Below.heap_alloc _ _ _ hk,bQ _⟩
theorem ItStep.weaken{B B':Nat}{S S':Nat->Prop}{W W':World}(h:ItStep B S W W')(hB:B'<=B)(hS:∀ k,S' k->S k):ItStep B' S' W W':=
 ⟨h.os,h.tape,h.output,h.size,λk hk hs=>h.keep k hk (hs.imp (λe=>by omega) (hS k)),h.drawn⟩
theorem I3{α:Type}{P:Program}{g:Operand}{ps:Array Tmp}{assign body:Code}{Q:Exit->Act->World->Prop}{a:Act}{w:World}
 {gf:FuncId} {first captured:Array Value} (hg:a.eval g = .func (.func gf) first captured) (eg:∀ args w,(callFunc gf args).run P w = .ok (.enter gf args) w)
 {mk:Value->Array Value} {encs:α->Array Value} {xs:List α} {n₀:Nat} {w0:World} (gH:∀ y,mk y=first ++ #[y]++captured)
 (hit:tX P gf mk encs xs n₀ w0) (cF:Below n₀ w0 w) (nD:n₀<=w.heap.size) (ej:∀ x,(encs x).size=ps.size)
 (I:List α->(Nat->Prop)->World->Prop) (Ix:Code->List α->(Nat->Prop)->World->Prop) (A:List α->α->(Nat->Prop)->Act->World->Prop)
 (hI:fN w.heap.size I) (fg:∀ c,fN w.heap.size (Ix c)) (hA:∀ pre x S a' W W',A pre x S a' W->ItStep w.heap.size S W W'->A pre x S a' W')
 (S0:Nat->Prop) (kO:∀ k,S0 k->n₀<=k) (gl:∀ k,S0 k->k<w.heap.size) (h0:I [] S0 w)
 (uv:∀ (l:Nat) (pre:List α) (x:α) (S:Nat->Prop) (W:World),pre ++ [x] <+: xs->I pre S W->(∀ k,S k->k<W.heap.size)->
   assign.wpIn (Fence.wide.inRound l) 0 P (Exit.then (λa₁ W₁=>∃ S',RdStep S W W₁/\(∀ k,S' k->S k\/W.heap.size<=k)/\(∀ k,S' k->k<W₁.heap.size)/\A pre x S' a₁ W₁) (λ_ _ _=>False))
    { tmps:=(ps.zip (encs x)).foldl (λt (p,v)=>t.setIfInBounds p v) a.tmps,defers:=[] } W)
 (uz:∀ (l:Nat) (pre:List α) (x:α) (S:Nat->Prop) (a₁:Act) (W:World),pre ++ [x] <+: xs->A pre x S a₁ W->(∀ k,S k->k<W.heap.size)->
   body.wpIn (Fence.wide.inRound l) 0 P (ic I Ix (pre ++ [x]) S W) a₁ W)
 (kU:∀ (D:Nat) (S:Nat->Prop) (W:World),w.heap.size<=D->¬ S D->(∀ k,S k->S0 k\/w.heap.size<=k)->I xs S W->W.heap[D]?=some (.deferred (some []))->
   Q .normal { a with defers:={ target:=.collected D,args:=#[] } :: a.defers } W)
 (lh:∀ (D:Nat) (c:Code) (pre:List α) (S:Nat->Prop) (W:World),w.heap.size<=D->¬ S D->(∀ k,S k->S0 k\/w.heap.size<=k)->pre <+: xs->Ix c pre S W->W.heap[D]?=some (.deferred (some []))->
   c.wpIn Fence.wide 0 P Q { a with defers:={ target:=.collected D,args:=#[] } :: a.defers } W) :
 (Code.rangeFunc g ps assign body).wpIn Fence.wide 0 P Q a w:=by
 refine wpIn_rangeFunc ?_;intro fn mV;show ∃ (l:Nat) (mark:List Deferred) (w₁:World) (d:Deferred) (w₁':World) (f:FuncId) (args:Array Value) (w₂:World),(Instr.enterLoop fn a.tmps ps assign body none).run P w = .ok (l,mark) w₁/\_;obtain⟨rec,dh⟩:∃ rec:LoopState->Option Code->Loop,rec=λst pe=>{ state:=st,pending:=pe,fn,tmps:=a.tmps,params:=ps,assign,body,defers:=w.heap.size }:=⟨_,rfl⟩;obtain⟨W1,dl⟩:=aRZ ((w.alloc (.deferred (some []))).alloc (.loop (rec .ready none)));have au:W1.heap.size=w.heap.size+2:=by rw[<-dl];simp
 have pK:W1.heap[w.heap.size+1]?=some (.loop (rec .ready none)):=by
  rw[<-dl];have:=World.alloc_heap_new (w.alloc (.deferred (some []))) (.loop (rec .ready none));rwa [World.size_alloc] at this
 have um:W1.heap[w.heap.size]?=some (.deferred (some [])):=by
  rw[<-dl];exact (Below.heap_alloc _ _ _ (by simp)).trans (World.alloc_heap_new w _)
 have mO:I [] S0 W1:=by rw[<-dl];exact hI _ _ _ _ (hI _ _ _ _ h0 (qe _)) (qe _)
 have ay:Below n₀ w0 W1:=by
  rw[<-dl];exact cF.trans ((((vQ _ w).alloc (bQ _) _).alloc (by simp) _).mono nD)
 refine⟨w.heap.size+1,[{ target:=.collected w.heap.size,args:=#[] }],W1,{ target:=.fn (.func gf) captured,args:=first ++ #[.func (.yield (w.heap.size+1)) #[] #[]] },W1,gf,
  first ++ #[.func (.yield (w.heap.size+1)) #[] #[]]++captured,W1,?_,?_,?_,?_,λh=>by simp[Fence.wide] at h,?_⟩
 ·rw[<-dl,dh];exact run_enterLoop_outer _ _ _ _ _
 ·simp only[resolve,hg];simp[go_sem]
 ·intro f' _;trivial
 ·simp[invoke,go_sem,eg]
 ·rw[<-gH];have key:=hit (w.heap.size+1)
   (λpre Si W=>∃ S:Nat->Prop,(∀ k,Si k↔S k\/k=w.heap.size+1)/\(¬ S w.heap.size)/\(¬ S (w.heap.size+1))/\(∀ k,S k->S0 k\/w.heap.size<=k)/\I pre S W/\W.heap[w.heap.size+1]?=some (.loop (rec .ready none))/\W.heap[w.heap.size]?=some (.deferred (some [])))
   (λpre Si W=>∃ (S:Nat->Prop) (c:Code),(∀ k,Si k↔S k\/k=w.heap.size+1)/\(¬ S w.heap.size)/\(¬ S (w.heap.size+1))/\(∀ k,S k->S0 k\/w.heap.size<=k)/\Ix c pre S W/\W.heap[w.heap.size+1]?=some (.loop (rec .done (some c)))/\W.heap[w.heap.size]?=some (.deferred (some [])))
   (λk=>S0 k\/k=w.heap.size+1) W1 ay ?_ ?_ ?_ ?_ ?_ ?_
  ·refine key.mono ?_;rintro e W2 ⟨⟨v,rfl⟩,(⟨S',⟨S,bV,hD,hL,aP,hi,hl,hk⟩,_⟩ | ⟨pre,S',gU,⟨S,c,bV,hD,hL,aP,hi,hl,hk⟩,_⟩)⟩
   ·refine⟨none,_,by have:=run_endLoop (P:=P) hl (by rw[dh];simp);rw[dh] at this;exact this,?_⟩;exact kU _ S _ (bQ _) hD aP (hI _ _ _ _ hi (mB _ (by omega) hL)) ((zQ (by omega)).trans hk)
   ·refine⟨some c,_,by have:=run_endLoop (P:=P) hl (by rw[dh];simp);rw[dh] at this;exact this,?_⟩;exact lh _ c pre S _ (bQ _) hD aP gU ((fg c) _ _ _ _ hi (mB _ (by omega) hL)) ((zQ (by omega)).trans hk)
  ·rintro pre Si A1 B1 ⟨S,bV,hD,hL,aP,hi,hl,hk⟩ aq;have af:w.heap.size+1<A1.heap.size:=(eQ.1 hl).1;exact⟨S,bV,hD,hL,aP,hI _ _ _ _ hi (aq.weaken (by omega) (λk e=>(bV k).2 (.inl e))),(aq.keep _ af (.inl (by omega))).trans hl,(aq.keep _ (by omega) (.inl (by omega))).trans hk⟩
  ·rintro pre Si A1 B1 ⟨S,c,bV,hD,hL,aP,hi,hl,hk⟩ aq;have af:w.heap.size+1<A1.heap.size:=(eQ.1 hl).1;exact⟨S,c,bV,hD,hL,aP,fg c _ _ _ _ hi (aq.weaken (by omega) (λk e=>(bV k).2 (.inl e))),(aq.keep _ af (.inl (by omega))).trans hl,(aq.keep _ (by omega) (.inl (by omega))).trans hk⟩
  ·
   rintro pre x Si W bw ⟨S,bV,hD,hL,aP,hi,hl,hk⟩ dz us;have af:w.heap.size+1<W.heap.size:=(eQ.1 hl).1;have ur:∀ k,S k->k<W.heap.size:=λk e=>dz k ((bV k).2 (.inl e));have hy:=run_yield (P:=P) (args:=encs x) hl (by rw[dh];exact ej x);rw[dh] at hy;refine⟨fn,_,assign,body,hy,roundIn_of_wpIn mV (wpIn_mono (uv _ pre x S W bw hi ur) ?_)⟩;intro e a1 Wa hq
   cases e with
   | normal=>
    obtain⟨S1,cG,bp,rg,ui⟩:=hq;have oB:¬ S1 w.heap.size:=λe=>by rcases bp _ e with e | e;exact hD e;omega
    have kX:¬ S1 (w.heap.size+1):=λe=>by rcases bp _ e with e | e;exact hL e;omega
    have ke:Wa.heap[w.heap.size+1]?=some (.loop (rec .ready none)):=(cG.keep _ af hL).trans hl;have mW:Wa.heap[w.heap.size]?=some (.deferred (some [])):=(cG.keep _ (by omega) hD).trans hk;have oz:w.heap.size+1<Wa.heap.size:=(eQ.1 ke).1;refine⟨_,run_beginRound ke (by rw[dh]),?_⟩;have hb:=uz (w.heap.size+1) pre x S1 a1 (Wa.putObj (w.heap.size+1) (.loop { rec .ready none with state:=.busy })) bw (hA _ _ _ _ _ _ ui (mB _ (by omega) kX)) (λk e=>by simpa using rg k e);refine wpIn_mono hb ?_;have fin:∀ (jump:Option Code) (W3:World) (S3:Nat->Prop),RdStep S1 (Wa.putObj (w.heap.size+1) (.loop { rec .ready none with state:=.busy })) W3->(∀ k,S3 k->S1 k\/(Wa.putObj (w.heap.size+1) (.loop { rec .ready none with state:=.busy })).heap.size<=k)->(∀ k,S3 k->k<W3.heap.size)->
     (Instr.endRound (w.heap.size+1) jump).run P W3 = .ok (.bool jump.isNone) (W3.putObj (w.heap.size+1) (.loop (rec (if jump.isNone then .ready else .done) jump)))/\
     (W3.putObj (w.heap.size+1) (.loop (rec (if jump.isNone then .ready else .done) jump))).heap[w.heap.size+1]?=some (.loop (rec (if jump.isNone then .ready else .done) jump))/\
     (W3.putObj (w.heap.size+1) (.loop (rec (if jump.isNone then .ready else .done) jump))).heap[w.heap.size]?=some (.deferred (some []))/\
     ¬ S3 w.heap.size/\¬ S3 (w.heap.size+1)/\(∀ k,S3 k->S k\/W.heap.size<=k)/\
     RdStep Si W (W3.putObj (w.heap.size+1) (.loop (rec (if jump.isNone then .ready else .done) jump))):=λjump W3 S3 bN bu bF=>by
     have i5:(Wa.putObj (w.heap.size+1) (.loop { rec .ready none with state:=.busy })).heap[w.heap.size+1]?=some (.loop { rec .ready none with state:=.busy }):=World.putObj_heap_same oz;have pR:(Wa.putObj (w.heap.size+1) (.loop { rec .ready none with state:=.busy })).heap[w.heap.size]?=some (.deferred (some [])):=(zQ (by omega)).trans mW;have i6:=(bN.keep _ (by simpa using oz) kX).trans i5;have ox:=(bN.keep _ (by simp;omega) oB).trans pR;have gr:=(eQ.1 i6).1
     have:=run_endRound (P:=P) jump i6
     rw[dh] at this |-;have uW:=bN.size;have oJ:=cG.size;simp only[World.putObj_size] at uW bu;refine⟨this,World.putObj_heap_same gr,(zQ (by omega)).trans ox,λe=>?_,λe=>?_,λk e=>?_,?_⟩
     ·rcases bu _ e with e | e;exact oB e;omega
     ·rcases bu _ e with e | e;exact kX e;omega
     ·rcases bu _ e with e | e
      ·exact bp _ e
      ·right;omega
     ·refine⟨bN.os.trans cG.os,bN.tape.trans cG.tape,bN.output.trans cG.output,by simp;omega,λk hk' oC=>?_,yQ cG.drawn bN.drawn⟩;have gG:k≠w.heap.size+1:=λe=>oC ((bV k).2 (.inr e));have oD:¬ S k:=λe=>oC ((bV k).2 (.inl e));have uJ:¬ S1 k:=λe=>by rcases bp _ e with e | e;exact oD e;omega
      exact (zQ gG).trans ((bN.keep k (by simp;omega) uJ).trans ((zQ gG).trans (cG.keep k hk' oD)))
    have fin2:∀ (S3:Nat->Prop) (W3:World) (o:Obj),(∀ k,S3 k->k<W3.heap.size)->W.heap.size<=W3.heap.size->(∀ k,S3 k->S k\/W.heap.size<=k)->
     (∀ k,(S3 k\/k=w.heap.size+1)->Si k\/W.heap.size<=k)/\(∀ k,(S3 k\/k=w.heap.size+1)->k<(W3.putObj (w.heap.size+1) o).heap.size):=λS3 W3 o h1 h2 h3=>
     ⟨λk e=>by rcases e with e | e;exact (h3 k e).imp (λe'=>(bV k).2 (.inl e')) id;exact .inl ((bV k).2 (.inr e)),λk e=>by
      simp only[World.putObj_size];rcases e with e | e
      ·exact h1 k e
      ·omega⟩
    have sub3:∀ (S3:Nat->Prop),(∀ k,S3 k->S k\/W.heap.size<=k)->∀ k,S3 k->S0 k\/w.heap.size<=k:=λS3 h k e=>by
     rcases h k e with e | e
     ·exact aP k e
     ·right;omega
    rintro e a3 W3 hp
    cases e with
    | normal=>
     obtain⟨S3,bN,bu,bF,gq⟩:=hp;obtain⟨hr,fU,eE,eL,dT,cD,aZ⟩:=fin none W3 S3 bN bu bF;have au:W.heap.size<=W3.heap.size:=by simpa using aZ.size
     refine⟨_,_,hr,λk=>S3 k\/k=w.heap.size+1,aZ,(fin2 S3 W3 (.deferred none) bF au cD).1,(fin2 S3 W3 _ bF au cD).2,.inl ⟨rfl,S3,λ_=>Iff.rfl,eL,dT,sub3 S3 cD,hI _ _ _ _ gq (mB _ (by omega) dT),fU,eE⟩⟩
    | ret=>
     obtain⟨S3,bN,bu,bF,gq⟩:=hp;obtain⟨hr,fU,eE,eL,dT,cD,aZ⟩:=fin (some .ret) W3 S3 bN bu bF;have au:W.heap.size<=W3.heap.size:=by simpa using aZ.size
     refine⟨_,_,hr,λk=>S3 k\/k=w.heap.size+1,aZ,(fin2 S3 W3 (.deferred none) bF au cD).1,(fin2 S3 W3 _ bF au cD).2,.inr ⟨rfl,S3,.ret,λ_=>Iff.rfl,eL,dT,sub3 S3 cD,fg _ _ _ _ _ gq (mB _ (by omega) dT),fU,eE⟩⟩
    | exit id=>
     obtain⟨S3,bN,bu,bF,gq⟩:=hp;obtain⟨hr,fU,eE,eL,dT,cD,aZ⟩:=fin (some (.exit id)) W3 S3 bN bu bF;have au:W.heap.size<=W3.heap.size:=by simpa using aZ.size
     refine⟨_,_,hr,λk=>S3 k\/k=w.heap.size+1,aZ,(fin2 S3 W3 (.deferred none) bF au cD).1,(fin2 S3 W3 _ bF au cD).2,.inr ⟨rfl,S3,.exit id,λ_=>Iff.rfl,eL,dT,sub3 S3 cD,fg _ _ _ _ _ gq (mB _ (by omega) dT),fU,eE⟩⟩
    | goto t=>exact hp.elim
    | panic ch=>exact hp.elim
    | outgrown=>exact hp.elim
   | ret=>exact hq.elim
   | exit id=>exact hq.elim
   | goto t=>exact hq.elim
   | panic ch=>exact hq.elim
   | outgrown=>exact hq.elim
  ·rintro k (e | rfl)
   ·exact kO k e
   ·omega
  ·rintro k (e | rfl)
   ·have:=gl k e;omega
   ·omega
  ·exact⟨S0,λ_=>Iff.rfl,λe=>by have:=gl _ e;omega,λe=>by have:=gl _ e;omega,λ_ e=>.inl e,mO,pK,um⟩
theorem eS{B:Nat}{S:Nat->Prop}{W W':World}{b:Nat}{t:TypeId}{v:Value}(h:Boxed W b t v)(hs:ItStep B S W W')(hb:S b):Boxed W' b t v:=(hs.keep b h.lt (.inr hb)).trans h
theorem nt{n B:Nat}{S:Nat->Prop}{w W W':World}(h:Below n w W)(hs:ItStep B S W W')(hB:n<=B)(hn:n<=w.heap.size):Below n w W':=
 ⟨hs.os.trans h.os,hs.tape.trans h.tape,hs.output.trans h.output,yQ h.size hs.size,λk hk=>(hs.keep k (by have:=h.size;omega) (.inl (by omega))).trans (h.block k hk),yQ h.drawn hs.drawn⟩
theorem mM{n:Nat}{W W':World}{b:Nat}{t:TypeId}{v:Value}(h:Boxed W b t v)(hs:Below n W W')(hb:b<n):Boxed W' b t v:=(hs.block b hb).trans h
theorem bI{W:World}{b:Nat}{t:TypeId}{v:Value}(h:Boxed W b t v){p:Addr}(hp:b≠p.block)(u:Value):Boxed (W.setCell p u) b t v:=(wQ W p u b hp).trans h
theorem pG{P:Program}{fn:Func}{R:Ending->World->Prop}{tmps:Array Value}{w:World}{v:Value}(re:(results fn tmps).run P w = .ok v w)(hR:R (.returned v) w) :
 bodyPostM Fence.wide 0 P fn R .ret { tmps:=tmps,defers:=[] } w:=⟨_,re,hR⟩
theorem iw{P:Program}{fn:Func}{R:Ending->World->Prop}{tmps:Array Value}{W:World}{D:Nat}{v:Value}(hK:W.heap[D]?=some (.deferred (some [])))
 (re:(results fn tmps).run P (W.putObj D (.deferred none)) = .ok v (W.putObj D (.deferred none))) (hR:R (.returned v) (W.putObj D (.deferred none))) :
 bodyPostM Fence.wide 0 P fn R .ret { tmps:=tmps,defers:=[{ target:=.collected D,args:=#[] }] } W:=
 ⟨by simp,.inl ⟨_,_,rfl,run_takeDeferred hK,_,re,hR⟩⟩
theorem ib{n D:Nat}{w W:World}(h:Below n w W)(hD:n<=D)(o:Obj):Below n w (W.putObj D o):=
 ⟨h.os,h.tape,h.output,by simpa using h.size,λk hk=>(zQ (by omega)).trans (h.block k hk),h.drawn⟩
theorem mN{W:World}{b D:Nat}{t:TypeId}{v:Value}(h:Boxed W b t v)(hD:b≠D)(o:Obj):Boxed (W.putObj D o) b t v:=(zQ hD).trans h
theorem vx{α:Type}{P:Program}{g:Operand}{ps:Array Tmp}{assign body:Code}{Q:Exit->Act->World->Prop}{a:Act}{w:World}
 {gf:FuncId} {first captured:Array Value} (hg:a.eval g = .func (.func gf) first captured) (eg:∀ args w,(callFunc gf args).run P w = .ok (.enter gf args) w)
 {mk:Value->Array Value} {encs:α->Array Value} {xs:List α} {n₀:Nat} {w0:World} (gH:∀ y,mk y=first ++ #[y]++captured)
 (hit:tX P gf mk encs xs n₀ w0) (cF:Below n₀ w0 w) (nD:n₀<=w.heap.size) (ej:∀ x,(encs x).size=ps.size)
 (I:List α->(Nat->Prop)->World->Prop) (Ix:Code->List α->(Nat->Prop)->World->Prop)
 (hI:fN w.heap.size I) (fg:∀ c,fN w.heap.size (Ix c))
 (S0:Nat->Prop) (kO:∀ k,S0 k->n₀<=k) (gl:∀ k,S0 k->k<w.heap.size) (h0:I [] S0 w)
 (uS:∀ (l0:Nat) (pre:List α) (x:α) (S:Nat->Prop) (W:World),pre ++ [x] <+: xs->I pre S W->(∀ k,S k->k<W.heap.size)->
   assign.wpIn (Fence.wide.inRound l0) 0 P (Exit.then (λa₁ W₁=>∃ S',RdStep S W W₁/\(∀ k,S' k->S k\/W.heap.size<=k)/\(∀ k,S' k->k<W₁.heap.size)/\
    ∀ l W₂,ItStep w.heap.size S' W₁ W₂->body.wpIn (Fence.wide.inRound l) 0 P (ic I Ix (pre ++ [x]) S' W₂) a₁ W₂) (λ_ _ _=>False))
    { tmps:=(ps.zip (encs x)).foldl (λt (p,v)=>t.setIfInBounds p v) a.tmps,defers:=[] } W)
 (kU:∀ (D:Nat) (S:Nat->Prop) (W:World),w.heap.size<=D->¬ S D->(∀ k,S k->S0 k\/w.heap.size<=k)->I xs S W->W.heap[D]?=some (.deferred (some []))->
   Q .normal { a with defers:={ target:=.collected D,args:=#[] } :: a.defers } W)
 (lh:∀ (D:Nat) (c:Code) (pre:List α) (S:Nat->Prop) (W:World),w.heap.size<=D->¬ S D->(∀ k,S k->S0 k\/w.heap.size<=k)->pre <+: xs->Ix c pre S W->W.heap[D]?=some (.deferred (some []))->
   c.wpIn Fence.wide 0 P Q { a with defers:={ target:=.collected D,args:=#[] } :: a.defers } W) :
 (Code.rangeFunc g ps assign body).wpIn Fence.wide 0 P Q a w:=
 I3 hg eg gH hit cF nD ej I Ix (λpre x S a₁ W=>∀ l W₂,ItStep w.heap.size S W W₂->body.wpIn (Fence.wide.inRound l) 0 P (ic I Ix (pre ++ [x]) S W₂) a₁ W₂)
  hI fg (λ_ _ _ _ _ _ h hs l W₂ h2=>h l W₂ (hs.trans h2)) S0 kO gl h0 uS (λl _ _ _ _ W _ h _=>h l W (ItStep.refl _ _ _)) kU lh
end D
section
open Go.RowKit
section
variable {P:Program} {ops:Array Oper} {Q:Exit->Act->World->Prop}
theorem PY{listed:Array Bool}(hw:∀ (i:Nat) (o:Oper),ops[i]?=some o->∀ e∈o.after,Region.binds .any e=true->e.on<i)(au:listed.size=ops.size):∀ p,p<ops.size->listed.getD p true=false->Region.ready .any ops listed≠[]:=by
 intro p
 induction p using Nat.strongRecOn with
 | _ p ih=>
  intro hp hl;by_cases cX:∀ e∈(ops[p]).after,Region.binds .any e=true->listed.getD e.on false=true
  ·intro h0
   have:p∈Region.ready .any ops listed:=mem_ready.2 ⟨hl,ops[p],pQ hp,cX⟩
   rw[h0] at this
   cases this
  ·simp only[Classical.not_forall] at cX;obtain⟨e,he,hb,hne⟩:=cX;have af:=hw p _ (pQ hp) e he hb;refine ih e.on af (by omega) ?_;have h1:e.on<listed.size:=by omega
   simpa [Array.getD,h1] using hne
def D4(ops:Array Oper):Bool:=(List.range ops.size).all λi=>match ops[i]? with
 | some o=>o.after.all λe=>!Region.binds .any e||decide (e.on<i)
 | none=>true
theorem QO(h:D4 ops=true):∀ (i:Nat) (o:Oper),ops[i]?=some o->∀ e∈o.after,Region.binds .any e=true->e.on<i:=by
 intro i o ho e he hb;unfold D4 at h;rw[List.all_eq_true] at h;have h1:=h i (by rw[List.mem_range];exact (eQ.1 ho).1);rw[ho] at h1;simp only[Array.all_eq_true_iff_forall_mem,Bool.or_eq_true,Qa,Bool.not_eq_true'] at h1;exact (h1 e he).resolve_left (by rw[hb];simp)
theorem aNY{w:World}{D A:List Nat}{dst:Nat->Nat}{val:Nat->Value}{base:List (Nat×Value)}{m p:Nat}{ds:List Deferred}
 (hw:∀ (i:Nat) (o:Oper),ops[i]?=some o->∀ e∈o.after,Region.binds .any e=true->e.on<i) (hp:p<ops.size) (jw:p∉D)
 (As:∀ (i:Nat) (o:Oper),ops[i]?=some o->i∉D->i≠p->∃ e∈o.after,Region.binds .any e=true/\e.on∉D/\e.on<ops.size)
 (zG:∀ i∈D,i∉A->∃ o:Oper,ops[i]?=some o/\o.dst=some (dst i)) (af:∀ i∈D,dst i<m) (qZ:∀ i∈D,∀ j∈D,j≠i->dst i≠dst j) (gm:∀ i∈D,∀ q∈base,dst i≠q.1)
 (hy:∀ i∈D,i∉A->∀ o:Oper,ops[i]?=some o->∀ a:Act,(∀ q∈base,a.eval (.tmp q.1)=q.2)->(∀ e∈o.after,Region.binds .any e=true->e.on∈D->a.eval (.tmp (dst e.on))=val e.on)->YieldsIn P ops (λw'=>w'=w) o (val i) a)
 (og:∀ f listed a,Held ops D A dst val base m ds (f+1) listed a->p∈Region.ready .any ops listed->wpOp P ops Q p (wpAny P .any ops Q f (listed.setIfInBounds p true)) a w) :
 ∀ f listed a,Held ops D A dst val base m ds f listed a->wpAny P .any ops Q f listed a w:=by
 intro f
 induction f with
 | zero=>intro listed a h;exact absurd h.good (jJ.none hp jw)
 | succ f ih=>
  intro listed a h;have hg:=h.good;refine⟨λh0=>absurd h0 (PY hw hg.size p hp (hg.not p hp jw)),λi hi=>?_⟩;obtain⟨hr,o,ho,cX⟩:=mem_ready.1 hi;by_cases hip:i=p
  ·subst hip;exact og f listed a h hi
  ·have fx:i∈D:=Decidable.byContradiction λfx=>by
    obtain⟨e,he,oq,eL,hes⟩:=As i o ho fx hip;have h1:=cX e he oq;have h2:=hg.not e.on hes eL;have h3:e.on<listed.size:=by rw[hg.size];exact hes
    simp[Array.getD,h3] at h1 h2;rw[h1] at h2
    cases h2
   have bE:i∉A:=λhA=>by
    have h1:=h.done i hA;have h3:i<listed.size:=by rw[hg.size];exact (eQ.1 ho).1
    simp[Array.getD,h3] at h1 hr;rw[h1] at hr;cases hr
   obtain⟨o',ho',hd⟩:=zG i fx bE;rw[ho] at ho';cases ho';have zF:∀ e∈o.after,Region.binds .any e=true->e.on∈D->a.eval (.tmp (dst e.on))=val e.on:=λe he oq hD=>hg.val _ hD (cX e he oq);have hq:=jJ.step (P:=P) hg fx hr ho hd (af i fx) (qZ i fx) (gm i fx) (hy i fx bE o ho a hg.base zF);exact wpOp_of_qOp (C:=λw'=>w'=w) rfl (λa' w' hw' h'=>by subst hw';exact ih _ a' ⟨h',λj hj=>tm (h.done j hj),yN hi h.clo⟩) hq
def Ip(ops:Array Oper)(R:List Nat)(p:Nat):Bool:=(List.range ops.size).all λi=>i == p||R.contains i||(List.range ops.size).any λj=>decide (i<j)&&!R.contains j&&match ops[j]? with
 | some o=>o.after.any λe=>Region.binds .any e&&e.on == i
 | none=>false
theorem Held.most{D A R:List Nat}{dst:Nat->Nat}{val:Nat->Value}{base:List (Nat×Value)}{m p f:Nat}{ds:List Deferred}{listed:Array Bool}{a:Act}(h:Held ops D A dst val base m ds (f+1) listed a)(hp:p∈Region.ready .any ops listed)(hl:Ip ops R p=true) :
 ∀ i,i<ops.size->i≠p->i∉R->listed.getD i false=true:=by
 unfold Ip at hl;rw[List.all_eq_true] at hl;have key:∀ k i,ops.size - i=k->i<ops.size->i≠p->i∉R->listed.getD i false=true:=by
  intro k
  induction k using Nat.strongRecOn with
  | ind k ih=>
   intro i hk his hip Y7;have h1:=hl i (by rw[List.mem_range];exact his);simp only[Bool.or_eq_true,beq_iff_eq,hip,List.contains_iff_mem,Y7,false_or,List.any_eq_true,List.mem_range,Bool.and_eq_true,Qa,Bool.not_eq_true'] at h1;obtain⟨j,hj,⟨mo,CZ⟩,h2⟩:=h1;have CZ:j∉R:=λe=>by rw[List.contains_iff_mem.2 e] at CZ;cases CZ
   rw[pQ hj] at h2;simp only[Array.any_eq_true',Bool.and_eq_true,beq_iff_eq] at h2;obtain⟨e,he,hb,rfl⟩:=h2;by_cases zM:j=p
   ·subst zM;obtain⟨_,o,ho,cX⟩:=mem_ready.1 hp;rw[pQ hj] at ho
    cases ho
    exact cX e he hb
   ·exact h.clo j _ (pQ hj) (ih (ops.size - j) (by omega) j rfl hj zM CZ) e he hb
 exact λi hi hne hR=>key _ i rfl hi hne hR
structure Rest(ops:Array Oper)(R D:List Nat)(dst:Nat->Nat)(val:Nat->Value)(base:List (Nat×Value))(m:Nat)(ds:List Deferred)(f:Nat)(listed:Array Bool)(a:Act):Prop where
 defs:a.defers=ds
 size:listed.size=ops.size
 left:listed.toList.count false=f
 val:∀ i∈D,listed.getD i false=true->a.eval (.tmp (dst i))=val i
 base:∀ q∈base,a.eval (.tmp q.1)=q.2
 tmps:a.tmps.size=m
 out:∀ i,i<ops.size->i∉R->listed.getD i false=true
theorem Held.rest{D A R:List Nat}{dst:Nat->Nat}{val:Nat->Value}{base:List (Nat×Value)}{m p f:Nat}{ds:List Deferred}{listed:Array Bool}{a:Act}(h:Held ops D A dst val base m ds (f+1) listed a)(hp:p∈Region.ready .any ops listed)(jw:p∉D)(hl:Ip ops R p=true) :
 Rest ops R D dst val base m ds f (listed.setIfInBounds p true) a:=by
 have hg:=h.good;obtain⟨Ao,o,ho,_⟩:=mem_ready.1 hp;have ej:p<ops.size:=(eQ.1 ho).1;have i3:p<listed.size:=by rw[hg.size];exact ej
 have ka:listed[p]=false:=by simpa [Array.getD,i3] using Ao
 refine⟨hg.defs,by simp[hg.size],?_,λi hi hl=>?_,hg.base,hg.tmps,λi hi hR=>?_⟩
 ·have h1:=hg.left;rw[Array.toList_setIfInBounds,List.count_set (by simpa using i3)];simp[ka,h1]
 ·rcases DH hl with rfl | hl
  ·exact absurd hi jw
  ·exact hg.val i hi hl
 ·by_cases hip:i=p
  ·subst hip;simp[Array.getD,i3]
  ·exact tm (h.most hp hl i hi hip hR)
end
section
variable {P:Program} {ops:Array Oper} {Q:Exit->Act->World->Prop}
theorem aOQ{w:World}{D A T:List Nat}{dst:Nat->Nat}{val:Nat->Value}{base:List (Nat×Value)}{m p0:Nat}{ds:List Deferred}
 (hw:∀ (i:Nat) (o:Oper),ops[i]?=some o->∀ e∈o.after,e.on<i) (pV:p0<ops.size) (zZ:p0∉D)
 (As:∀ (i:Nat) (o:Oper),ops[i]?=some o->i∉D->i∉T->∃ e∈o.after,Region.binds .any e=true/\e.on∉D/\e.on<ops.size)
 (zG:∀ i∈D,i∉A->∃ o:Oper,ops[i]?=some o/\o.dst=some (dst i)) (af:∀ i∈D,dst i<m) (qZ:∀ i∈D,∀ j∈D,j≠i->dst i≠dst j) (gm:∀ i∈D,∀ q∈base,dst i≠q.1)
 (hy:∀ i∈D,i∉A->∀ o:Oper,ops[i]?=some o->∀ a:Act,(∀ q∈base,a.eval (.tmp q.1)=q.2)->(∀ e∈o.after,Region.binds .any e=true->e.on∈D->a.eval (.tmp (dst e.on))=val e.on)->YieldsIn P ops (λw'=>w'=w) o (val i) a)
 (og:∀ p∈T,∀ f listed a,Held ops D A dst val base m ds (f+1) listed a->p∈Region.ready .any ops listed->wpOp P ops Q p (wpAny P .any ops Q f (listed.setIfInBounds p true)) a w) :
 ∀ f listed a,Held ops D A dst val base m ds f listed a->wpAny P .any ops Q f listed a w:=by
 intro f
 induction f with
 | zero=>intro listed a h;exact absurd h.good (jJ.none pV zZ)
 | succ f ih=>
  intro listed a h;have hg:=h.good;refine⟨λh0=>absurd h0 (asK hw hg.size p0 pV (hg.not p0 pV zZ)),λi hi=>?_⟩;obtain⟨hr,o,ho,cX⟩:=mem_ready.1 hi;by_cases hip:i∈T
  ·exact og i hip f listed a h hi
  ·have fx:i∈D:=Decidable.byContradiction λfx=>by
    obtain⟨e,he,oq,eL,hes⟩:=As i o ho fx hip;have h1:=cX e he oq;have h2:=hg.not e.on hes eL;have h3:e.on<listed.size:=by rw[hg.size];exact hes
    simp[Array.getD,h3] at h1 h2;rw[h1] at h2
    cases h2
   have bE:i∉A:=λhA=>by
    have h1:=h.done i hA;have h3:i<listed.size:=by rw[hg.size];exact (eQ.1 ho).1
    simp[Array.getD,h3] at h1 hr;rw[h1] at hr;cases hr
   obtain⟨o',ho',hd⟩:=zG i fx bE;rw[ho] at ho';cases ho';have zF:∀ e∈o.after,Region.binds .any e=true->e.on∈D->a.eval (.tmp (dst e.on))=val e.on:=λe he oq hD=>hg.val _ hD (cX e he oq);have hq:=jJ.step (P:=P) hg fx hr ho hd (af i fx) (qZ i fx) (gm i fx) (hy i fx bE o ho a hg.base zF);exact wpOp_of_qOp (C:=λw'=>w'=w) rfl (λa' w' hw' h'=>by subst hw';exact ih _ a' ⟨h',λj hj=>tm (h.done j hj),yN hi h.clo⟩) hq
def D0(ops:Array Oper)(D T:List Nat):Bool:=(List.range ops.size).all λi=>D.contains i||T.contains i||match ops[i]? with
 | some o=>o.after.any λe=>Region.binds .any e&&!D.contains e.on&&decide (e.on<ops.size)
 | none=>true
theorem QI{D T:List Nat}(h:D0 ops D T=true):∀ (i:Nat) (o:Oper),ops[i]?=some o->i∉D->i∉T->∃ e∈o.after,Region.binds .any e=true/\e.on∉D/\e.on<ops.size:=by
 intro i o ho hD hp;unfold D0 at h;rw[List.all_eq_true] at h;have h1:=h i (by rw[List.mem_range];exact (eQ.1 ho).1);rw[ho] at h1;simp only[Bool.or_eq_true,List.contains_iff_mem,hD,hp,false_or] at h1;rw[Array.any_eq_true'] at h1;obtain⟨e,he,h2⟩:=h1;simp only[Bool.and_eq_true,Bool.not_eq_true',Qa] at h2;have h3:e.on∉D:=λhm=>by
  have:=h2.1.2
  rw[List.contains_iff_mem.2 hm] at this
  cases this
 exact⟨e,he,h2.1.1,h3,h2.2⟩
end
end
namespace D
open Go.RowKit
def bA(w:World):Type:={ x:World // Below w.heap.size w x }
def bA.w{w:World}(g:bA w):World:=g.1
theorem bA.below{w:World}(g:bA w):Below w.heap.size w g.w:=g.2
instance (w:World):Nonempty (bA w):=⟨⟨w,vQ _ _⟩⟩
theorem bA.cell{w:World}(g:bA w)(p:Addr)(h:p.block<w.heap.size):g.w.cell? p=w.cell? p:=g.2.cell h
theorem bA.frozen{w:World}(g:bA w)(p:Addr)(h:p.block<w.heap.size):g.w.frozen? p=w.frozen? p:=g.2.frozen h
theorem bA.size{w:World}(g:bA w):w.heap.size<=g.w.heap.size:=g.2.size
theorem Calls.grow_of{P:Program}{f:FuncId}{args:Array Value}{w:World}{g:bA w}{v:Value}
 (h:Calls P f args g.w λe w'=>e = .returned v/\Below g.w.heap.size g.w w'):Calls P f args g.w λe w''=>e = .returned v/\∃ g':bA w,w''=g'.w:=
 h.mono λ_ w' ⟨he,hm⟩=>⟨he,⟨w',g.2.trans (hm.mono g.2.size)⟩,rfl⟩
theorem Calls.grow_same{P:Program}{f:FuncId}{args:Array Value}{w:World}{g:bA w}{v:Value}
 (h:Calls P f args g.w λe w'=>e = .returned v/\g.w=w'):Calls P f args g.w λe w''=>e = .returned v/\∃ g':bA w,w''=g'.w:=
 h.mono λ_ _ ⟨he,hm⟩=>⟨he,g,hm.symm⟩
section
variable {P:Program}
theorem pg{id:Nat}{Q:Exit->Act->World->Prop}{a:Act}{w:World}{l:List Oper}(hm:P.follows .mixedOrders=true)(hB:Region.lexB .any l.toArray=true)
 (h:wpQuiet P l.toArray (λw'=>∃ g:bA w,w'=g.w) (λa'=>∀ w',(∃ g:bA w,w'=g.w)->Q .normal a' w') l a):(Code.region id l.toArray true).wp P Q a w:=
 wp_region_quiet (C:=λw'=>∃ g:bA w,w'=g.w) hm hB ⟨⟨_,(vQ w.heap.size w).drew⟩,rfl⟩ (by simpa using h)
end
theorem dd{W w1:World}(hb:Below W.heap.size W w1):(∀ b o,b<W.heap.size->w1.cell? ⟨b,o,none⟩=W.cell? ⟨b,o,none⟩)/\(∀ b o,b<W.heap.size->w1.frozen? ⟨b,o,none⟩=W.frozen? ⟨b,o,none⟩):=
 ⟨λb o h=>hb.cell (p:=⟨b,o,none⟩) h,λb o h=>hb.frozen (p:=⟨b,o,none⟩) h⟩
end D
section
open Go.RowKit
section
variable {P:Program} {ops:Array Oper} {Q:Exit->Act->World->Prop}
def stB(ops:Array Oper)(ord D A:List Nat)(p:Nat)(dst:Nat->Nat):Bool:=
 D4 ops&&IY ops D p&&decide (p<ops.size)&&!D.contains p&&D.all λi=>ord.contains i&&(A.contains i||match ops[i]? with
  | some o=>o.dst == some (dst i)
  | none=>false)
def we(ops:Array Oper)(D:List Nat)(p k:Nat):Bool:=D.contains k&&match ops[p]? with
 | some o=>o.after.any λe=>Region.binds .any e&&e.on == k
 | none=>false
theorem f9{w:World}{ord D A:List Nat}{dst:Nat->Nat}{val:Nat->Value}{a0:Act}{m:Nat}(p:Nat){dsts:List Nat}{ds:List Deferred}{f:Nat}{listed:Array Bool}{a:Act}
 (h1:∀ i∈ord,dst i<m/\dst i∈dsts) (h2:∀ i∈ord,∀ j∈ord,j≠i->dst i≠dst j)
 (h:Held ops D A dst val (gJ a0 m dsts) m ds f listed a) (hB:stB ops ord D A p dst=true)
 (hy:∀ i∈D,i∉A->∀ o:Oper,ops[i]?=some o->∀ a:Act,(∀ q∈gJ a0 m dsts,a.eval (.tmp q.1)=q.2)->(∀ e∈o.after,Region.binds .any e=true->e.on∈D->a.eval (.tmp (dst e.on))=val e.on)->YieldsIn P ops (λw'=>w'=w) o (val i) a)
 (og:∀ f listed a,Held ops D A dst val (gJ a0 m dsts) m ds (f+1) listed a->p∈Region.ready .any ops listed->((k:Nat)->(_:we ops D p k=true:=by kernel_rfl)->a.eval (.tmp (dst k))=val k)->wpOp P ops Q p (wpAny P .any ops Q f (listed.setIfInBounds p true)) a w) :
 wpAny P .any ops Q f listed a w:=by
 simp only[stB,Bool.and_eq_true,Qa,Bool.not_eq_true',List.all_eq_true,List.contains_iff_mem,Bool.or_eq_true] at hB;obtain⟨⟨⟨⟨b1,b2⟩,b3⟩,b4⟩,b5⟩:=hB;have jw:p∉D:=λe=>by rw[List.contains_iff_mem.2 e] at b4;cases b4
 refine aNY (QO b1) b3 jw (aLK b2) (λi hi hA=>?_) (λi hi=>(h1 i (b5 i hi).1).1) (λi hi j hj=>h2 i (b5 i hi).1 j (b5 j hj).1) (λi hi=>DQ (h1 i (b5 i hi).1).2) hy (λf listed a hH hr=>og f listed a hH hr (λk hk=>?_)) f listed a h
 ·have:=(b5 i hi).2.resolve_left hA
  cases ho:ops[i]? with
  | none=>rw[ho] at this;cases this
  | some o=>rw[ho] at this;exact⟨o,rfl,by simpa using this⟩
 ·obtain⟨_,o,ho,cX⟩:=mem_ready.1 hr;simp only[we,ho,Bool.and_eq_true,List.contains_iff_mem] at hk;obtain⟨zO,hk⟩:=hk;rw[Array.any_eq_true'] at hk;obtain⟨e,he,h3⟩:=hk;simp only[Bool.and_eq_true,beq_iff_eq] at h3;obtain⟨h4,rfl⟩:=h3;exact hH.good.val _ zO (cX e he h4)
def Qw(ops:Array Oper)(ord D A T:List Nat)(p0:Nat)(dst:Nat->Nat):Bool:=
 IZ ops&&D0 ops D T&&decide (p0<ops.size)&&!D.contains p0&&D.all λi=>ord.contains i&&(A.contains i||match ops[i]? with
  | some o=>o.dst == some (dst i)
  | none=>false)
theorem IE{w:World}{ord D A:List Nat}{dst:Nat->Nat}{val:Nat->Value}{a0:Act}{m:Nat}(T:List Nat)(p0:Nat){dsts:List Nat}{ds:List Deferred}{f:Nat}{listed:Array Bool}{a:Act}
 (h1:∀ i∈ord,dst i<m/\dst i∈dsts) (h2:∀ i∈ord,∀ j∈ord,j≠i->dst i≠dst j)
 (h:Held ops D A dst val (gJ a0 m dsts) m ds f listed a) (hB:Qw ops ord D A T p0 dst=true)
 (hy:∀ i∈D,i∉A->∀ o:Oper,ops[i]?=some o->∀ a:Act,(∀ q∈gJ a0 m dsts,a.eval (.tmp q.1)=q.2)->(∀ e∈o.after,Region.binds .any e=true->e.on∈D->a.eval (.tmp (dst e.on))=val e.on)->YieldsIn P ops (λw'=>w'=w) o (val i) a)
 (og:∀ p∈T,∀ f listed a,Held ops D A dst val (gJ a0 m dsts) m ds (f+1) listed a->p∈Region.ready .any ops listed->((k:Nat)->(_:we ops D p k=true:=by kernel_rfl)->a.eval (.tmp (dst k))=val k)->wpOp P ops Q p (wpAny P .any ops Q f (listed.setIfInBounds p true)) a w) :
 wpAny P .any ops Q f listed a w:=by
 simp only[Qw,Bool.and_eq_true,Qa,Bool.not_eq_true',List.all_eq_true,List.contains_iff_mem,Bool.or_eq_true] at hB;obtain⟨⟨⟨⟨b1,b2⟩,b3⟩,b4⟩,b5⟩:=hB;have jw:p0∉D:=λe=>by rw[List.contains_iff_mem.2 e] at b4;cases b4
 refine aOQ (T:=T) (aMX b1) b3 jw (QI b2) (λi hi hA=>?_) (λi hi=>(h1 i (b5 i hi).1).1) (λi hi j hj=>h2 i (b5 i hi).1 j (b5 j hj).1) (λi hi=>DQ (h1 i (b5 i hi).1).2) hy (λp GU f listed a hH hr=>og p GU f listed a hH hr (λk hk=>?_)) f listed a h
 ·have:=(b5 i hi).2.resolve_left hA
  cases ho:ops[i]? with
  | none=>rw[ho] at this;cases this
  | some o=>rw[ho] at this;exact⟨o,rfl,by simpa using this⟩
 ·obtain⟨_,o,ho,cX⟩:=mem_ready.1 hr;simp only[we,ho,Bool.and_eq_true,List.contains_iff_mem] at hk;obtain⟨zO,hk⟩:=hk;rw[Array.any_eq_true'] at hk;obtain⟨e,he,h3⟩:=hk;simp only[Bool.and_eq_true,beq_iff_eq] at h3;obtain⟨h4,rfl⟩:=h3;exact hH.good.val _ zO (cX e he h4)
theorem zI{D:List Nat}{dst:Nat->Nat}{val:Nat->Value}{m:Nat}{dsts:List Nat}{a:Act}(hm:a.tmps.size=m):Held ops D [] dst val (gJ a m dsts) m a.defers ops.size (Array.replicate ops.size false) a:=Held.start (λq hq=>atK q hq) hm
def nxB(ops:Array Oper)(ord D D':List Nat)(p:Nat):Bool:=ord.contains p&&decide (p<ops.size)&&!D.contains p&&D'.contains p&&D.all λi=>D'.contains i&&ord.contains i
theorem Held.next{ord D A D':List Nat}{dst:Nat->Nat}{val val':Nat->Value}{a0:Act}{m p f:Nat}{dsts:List Nat}{ds:List Deferred}{listed:Array Bool}{a:Act}{v:Value}(h:Held ops D A dst val (gJ a0 m dsts) m ds (f+1) listed a)
 (h1:∀ i∈ord,dst i<m/\dst i∈dsts) (h2:∀ i∈ord,∀ j∈ord,j≠i->dst i≠dst j) (hp:p∈Region.ready .any ops listed) (He:val' p=v:=by rfl) (hB:nxB ops ord D D' p=true:=by kernel_rfl)
 (hval:∀ i∈D,val' i=val i:=by intro i hi;(repeat' (rcases hi with _ | ⟨_,hi⟩))<;>rfl) :
 Held ops D' (p::A) dst val' (gJ a0 m dsts) m ds f (listed.setIfInBounds p true) (a.put (some (dst p)) v):=by
 simp only[nxB,Bool.and_eq_true,Qa,Bool.not_eq_true',List.all_eq_true,List.contains_iff_mem] at hB;obtain⟨⟨⟨⟨b1,b2⟩,b3⟩,b4⟩,b5⟩:=hB;have jw:p∉D:=λe=>by rw[List.contains_iff_mem.2 e] at b3;cases b3
 exact h.act hp jw (λi hi=>⟨λe=>hi (b5 i e).1,λe=>hi (e ▸ b4)⟩) hval He (h1 p b1).1 (λj hj=>h2 p b1 j (b5 j hj).2 (λe=>jw (e ▸ hj))) (DQ (h1 p b1).2) b2
theorem rI{w:World}{D A:List Nat}{dst:Nat->Nat}{val:Nat->Value}{a0 a b:Act}{m p f:Nat}{dsts:List Nat}{listed:Array Bool}(h:Held ops D A dst val (gJ a0 m (D.map dst)) m a0.defers (f+1) listed a)(hp:p∈Region.ready .any ops listed)(hm:a0.tmps.size=m)
 (h1:∀ i∈D,dst i<m/\dst i∈dsts) (hl:(Hw ops p&&D.all λi=>decide (i<ops.size)&&i != p)=true) (jY:a=nb a0 (D.map λi=>(dst i,val i))->Q .normal b w):wpAny P .any ops Q f (listed.setIfInBounds p true) b w:=by
 simp only[Bool.and_eq_true,List.all_eq_true,Qa,bne_iff_ne] at hl;obtain⟨rfl,zR⟩:=h.all hp hl.1;have hG:=h.good;have hf:=Held.frame h hm (λi hi=>zR i (hl.2 i hi).1 (hl.2 i hi).2) (λi hi=>(h1 i hi).1);refine⟨asJ (λi hi=>?_) (by rw[Array.size_setIfInBounds];exact hG.size),?_⟩
 ·by_cases hip:i=p
  ·subst hip;have hs:i<listed.size:=by rw[hG.size];exact hi
   simp[Array.getD,hs]
  ·exact tm (zR i hi hip)
 ·exact jY hf
theorem eZ{A B:Prop}{w:World}{R:World->Prop}(h:A)(k:R w):(A/\∀ w',w'=w->R w')\/B:=.inl ⟨h,λw' e=>e ▸ k⟩
end
end
namespace D
open Go.RowKit Go.Shelf
attribute [local go_sem] Oper.semAt_some
abbrev bl(l:List UInt8):Value:=.string ⟨l.toArray⟩
def IG:Value->Nat
 | .string s=>s.size
 | _=>0
def D5(t:ByteArray)(J:List (List UInt8)->(Nat->Prop)->World->Prop)(S:Nat->Prop)(W:World)(v:Value)(wr:World):Prop:=
 ∃ (pre:List (List UInt8)) (r:ByteArray) (S1:Nat->Prop),v = .string r/\r.size<=140737488355328/\Np.ar t.data.toList=pre++(Np.aR r.data.toList).reverse/\
   J pre S1 wr/\(∀ k,S1 k->k<wr.heap.size)/\W.heap.size<=wr.heap.size/\(∀ k,S1 k->S k\/W.heap.size<=k)
theorem ub(t:ByteArray)(ht:t.size<=140737488355328)(n₀:Nat)(w:World) :
 tX prog 187 (λy=>#[.string t,y]) (λx:List UInt8=>#[bl x]) (Np.ar t.data.toList) n₀ w:=by
 intro l J Jx S W hW hJ F0 hY hS hS' h0;refine callsIn_of_wp func187 rfl trivial ?_ rfl;simp only[ntmps187,List.size_toArray,List.length_cons,List.length_nil,Nat.reduceAdd,Nat.reduceSub,Array.replicate_succ,Array.replicate_zero,List.push_toArray,List.append_toArray,List.nil_append,List.cons_append];gi_wp2_with fail
 ·have he:(t.toList == [46])=true:=by assumption
  have cP:t.data.toList = [46]:=by rw[<-dQ];simpa using he
  have hb:Np.ar t.data.toList = []:=by simp[Np.ar,cP]
  refine bodyPost_ret (results_none rfl _ _ _) rfl ?_;exact⟨⟨_,rfl⟩,.inl ⟨S,by rw[hb];exact h0,λk e=>.inl e⟩⟩
 ·have he:(t.toList == [46])=false:=by assumption
  have hne:¬ t.data.toList = [46]:=by rw[<-dQ];simpa using he
  have hb:Np.ar t.data.toList=(Np.aR t.data.toList).reverse:=by simp[Np.ar,hne]
  have HB:=jq hb;clear hb;gi_loopw [4] (λv wr=>D5 t J S W v wr) (λv _=>IG v)
  case atStart=>exact⟨[],t,S,rfl,ht,by simpa using HB.out,h0,hS',bQ _,λ_ e=>.inl e⟩
  case round=>
   obtain⟨pre,r,S1,rfl,hr,gU,hj,af,au,aP⟩:=hrel;have HP:=jq gU;clear gU;gi_wp2_with fail;refine⟨trivial,rfl,?_⟩;refine (callsIn_wide.2 (DD _ hr _ (by decide) (by decide) _)).mono ?_;rintro e w' ⟨q,hq,rfl,rfl⟩;rcases hq with ⟨rfl,bX⟩ | ⟨a,b,dO,oE,rfl⟩
   ·have bp:Np.aR r.data.toList = [r.data.toList]:=Np.nh bX;have hx:pre ++ [r.data.toList] <+: Np.ar t.data.toList:=by rw[HP.out,bp];exact List.prefix_refl _
    obtain⟨fn,tmps,assign,body,hy,hR⟩:=hY pre r.data.toList S1 wr hx hj af au;have na:Sem.run prog (Instr.yield l #[.string r]) wr = .ok (.round l fn tmps assign body) wr:=hy;clear hy;have HX:=jq hx;clear hx;have HS:=jq bp;clear bp bX;gi_wp2_with fail;refine⟨rfl,hR.mono ?_⟩;rintro e W3 ⟨S3,aZ,ez,gr,(⟨rfl,iy⟩ | ⟨rfl,iz⟩)⟩
    all_goals
     gi_wp2_with fail;refine bodyPost_ret (results_none rfl _ _ _) rfl ?_
    ·refine⟨⟨_,rfl⟩,.inl ⟨S3,?_,λk e=>?_⟩⟩
     ·rw[HP.out,HS.out];exact iy
     ·rcases ez k e with e | e
      ·exact aP k e
      ·right;omega
    ·refine⟨⟨_,rfl⟩,.inr ⟨_,S3,HX.out,iz,λk e=>?_⟩⟩;rcases ez k e with e | e
     ·exact aP k e
     ·right;omega
   ·have i8:a.length+1+b.length=r.size:=by rw[<-be,dO];simp;omega
    have bp:Np.aR r.data.toList=Np.aR a ++ [b]:=by rw[dO];exact (Np.rE a b).trans (by rw[Np.nh oE])
    have hx:pre ++ [b] <+: Np.ar t.data.toList:=by rw[HP.out,bp];simp
    have nI:(r.extract (a.length+1) r.size).data.toList=b:=by rw[uh,dO];simp
    have m8:(r.extract 0 a.length).data.toList=a:=by rw[yU,dO];simp
    have Al:(r.extract 0 a.length).size=a.length:=by rw[<-be,m8]
    obtain⟨fn,tmps,assign,body,hy,hR⟩:=hY pre b S1 wr hx hj af au;have na:Sem.run prog (Instr.yield l #[.string (r.extract (a.length+1) r.size)]) wr = .ok (.round l fn tmps assign body) wr:=by
     have:bl b = .string (r.extract (a.length+1) r.size):=by show Value.string _=_;congr 1;exact mF (by rw[nI])
     simp only[this] at hy;exact hy
    clear hy;have HX:=jq hx;have HS:=jq bp;have HA:=jq m8;have yq:=jq Al;clear hx bp nI m8 Al dO oE;have sL:a.length<=140737488355328:=by omega
    have Gg:a.length+1<=r.size:=by omega
    have H2:=jq i8;clear i8;gi_wp2_with fail;refine⟨rfl,hR.mono ?_⟩;rintro e W3 ⟨S3,aZ,ez,gr,(⟨rfl,iy⟩ | ⟨rfl,iz⟩)⟩
    ·have pZ:=aZ.size;gi_wp2_with fail;go_roundw
     case rel=>
      refine⟨pre ++ [b],r.extract 0 a.length,S3,rfl,by rw[yq.out];exact sL,?_,iy,gr,by omega,λk e=>?_⟩
      ·rw[HP.out,HS.out,HA.out];simp
      ·rcases ez k e with e | e
       ·exact aP k e
       ·right;omega
     case measure=>show (r.extract 0 a.length).size<r.size;rw[yq.out];omega
    ·gi_wp2_with fail;refine bodyPost_ret (results_none rfl _ _ _) rfl ?_;refine⟨⟨_,rfl⟩,.inr ⟨_,S3,HX.out,iz,λk e=>?_⟩⟩;rcases ez k e with e | e
     ·exact aP k e
     ·right;omega
end D
section
open Go.RowKit
section
variable {P:Program} {ops:Array Oper} {Q:Exit->Act->World->Prop}
theorem atJ{a0:Act}{m:Nat}{ds ds':List Nat}(h:∀ d∈ds,d∈ds'):∀ q∈gJ a0 m ds',q∈gJ a0 m ds:=λq hq=>by
 unfold gJ at hq |-;obtain⟨j,hj,rfl⟩:=List.mem_map.1 hq;refine List.mem_map.2 ⟨j,?_,rfl⟩;rw[List.mem_filter] at hj |-;refine⟨hj.1,?_⟩;have h2:=hj.2;simp only[Bool.not_eq_true',List.contains_eq_mem,decide_eq_false_iff_not] at h2 |-;exact λk=>h2 (h j k)
def skB(ops:Array Oper)(D D':List Nat)(p:Nat):Bool:=decide (p<ops.size)&&!D.contains p&&D'.contains p&&D.all λi=>D'.contains i
theorem Held.skip{D A D':List Nat}{dst:Nat->Nat}{val val':Nat->Value}{a0:Act}{m p f:Nat}{dsts dsts':List Nat}{ds:List Deferred}{listed:Array Bool}{a:Act}(h:Held ops D A dst val (gJ a0 m dsts) m ds (f+1) listed a)(hp:p∈Region.ready .any ops listed)
 (hs:(dsts.all (λd=>dsts'.contains d)&&decide (dst p<m)&&!dsts.contains (dst p))=true:=by kernel_rfl) (hv:val' p=a0.eval (.tmp (dst p))) (hB:skB ops D D' p=true:=by kernel_rfl)
 (hval:∀ i∈D,val' i=val i:=by intro i hi;(repeat' (rcases hi with _ | ⟨_,hi⟩))<;>rfl) :
 Held ops D' (p::A) dst val' (gJ a0 m dsts') m ds f (listed.setIfInBounds p true) a:=by
 simp only[skB,Bool.and_eq_true,Qa,Bool.not_eq_true',List.all_eq_true,List.contains_iff_mem] at hB;obtain⟨⟨⟨ej,b3⟩,b4⟩,b5⟩:=hB;simp only[Bool.and_eq_true,Qa,Bool.not_eq_true',List.all_eq_true,List.contains_iff_mem] at hs;obtain⟨⟨s1,s2⟩,s3⟩:=hs;have ju:dst p∉dsts:=λe=>by rw[List.contains_iff_mem.2 e] at s3;cases s3
 have jw:p∉D:=λe=>by rw[List.contains_iff_mem.2 e] at b3;cases b3
 have hg:=h.good;have Ao:=(mem_ready.1 hp).1;have i3:p<listed.size:=by rw[hg.size];exact ej
 have ka:listed[p]=false:=by simpa [Array.getD,i3] using Ao
 refine⟨⟨hg.defs,by simp[hg.size],?_,?_,?_,λq hq=>hg.base q (atJ s1 q hq),hg.tmps⟩,?_,yN hp h.clo⟩
 ·have h1:=hg.left;rw[Array.toList_setIfInBounds,List.count_set (by simpa using i3)];simp[ka,h1]
 ·intro j hj i4;have h1:j∉D:=λe=>i4 (b5 j e);have h2:j≠p:=λe=>i4 (e ▸ b4)
  have:=hg.not j hj h1
  rw[getD_set_ne true (λe=>h2 e.symm)];exact this
 ·intro j hj hl;rcases DH hl with rfl | hl
  ·rw[hv];exact bG hg.base s2 ju
  ·have i4:j∈D:=Decidable.byContradiction λi4=>by
    by_cases uG:j<ops.size
    ·have h1:=hg.not j uG i4;have h3:j<listed.size:=by rw[hg.size];exact uG
     simp[Array.getD,h3] at h1 hl;rw[h1] at hl;cases hl
    ·have h3:¬ j<listed.size:=by rw[hg.size];exact uG
     simp[Array.getD,h3] at hl
   rw[hval j i4];exact hg.val j i4 hl
 ·intro i hi;rcases List.mem_cons.1 hi with rfl | hi
  ·simp[Array.getD,i3]
  ·exact tm (h.done i hi)
end
end
namespace D
open Go.RowKit Go.Shelf
attribute [local go_sem] Oper.semAt_some
def dj(pre:List (List UInt8)):Bool:=pre.getLast? == some [42]
def qM(w:World)(xs:List (List UInt8))(pre:List (List UInt8))(S:Nat->Prop)(W:World):Prop:=
 (∀ k,S k↔k=w.heap.size\/k=w.heap.size+1\/k=w.heap.size+1+1)/\Boxed W w.heap.size 4 (.bool false)/\Boxed W (w.heap.size+1) 3 (.int .i64 pre.length)/\Boxed W (w.heap.size+1+1) 4 (.bool (dj pre))/\
 (pre.length<=8/\∀ rest,xs=pre++rest->Np.cV xs 0 false=Np.cV rest pre.length (dj pre))/\Below w.heap.size w W
def qN(w:World)(xs:List (List UInt8))(c:Code)(_:List (List UInt8))(S:Nat->Prop)(W:World):Prop:=
 c = .ret/\(∀ k,S k↔k=w.heap.size\/k=w.heap.size+1\/k=w.heap.size+1+1)/\Boxed W w.heap.size 4 (.bool false)/\Np.cV xs 0 false=false/\Below w.heap.size w W
theorem AP(w:World)(xs:List (List UInt8))(B:Nat)(hB:w.heap.size<=B):fN B (qM w xs):=by
 rintro s S W W' ⟨hS,h1,h2,h3,h4,h5⟩ aq;exact⟨hS,eS h1 aq ((hS _).2 (.inl rfl)),eS h2 aq ((hS _).2 (.inr (.inl rfl))),eS h3 aq ((hS _).2 (.inr (.inr rfl))),h4,nt h5 aq hB (bQ _)⟩
theorem IS(w:World)(xs:List (List UInt8))(B:Nat)(hB:w.heap.size<=B)(c:Code):fN B (qN w xs c):=by
 rintro s S W W' ⟨hc,hS,h1,h4,h5⟩ aq;exact⟨hc,hS,eS h1 aq ((hS _).2 (.inl rfl)),h4,nt h5 aq hB (bQ _)⟩
theorem vr{w:World}{xs pre:List (List UInt8)}{S:Nat->Prop}{W W3:World}{a:Act}(hS:∀ k,S k↔k=w.heap.size\/k=w.heap.size+1\/k=w.heap.size+1+1)
 (hr:RdStep S W W3) (af:∀ k,S k->k<W.heap.size) (c0:Boxed W3 w.heap.size 4 (.bool false)) (hB:Below w.heap.size w W3) (hg:Np.cV xs 0 false=false) :
 ic (qM w xs) (qN w xs) pre S W .ret a (W3.setCell ⟨w.heap.size,0,none⟩ (.bool false)):=
 ⟨S,hr.setCell (.inl ((hS _).2 (.inl rfl))) _,λ_ e=>.inl e,λk e=>by have:=af k e;have:=hr.size;simp[World.setCell];omega,rfl,hS,c0.set _,hg,hB.setCell (bQ _) _⟩
theorem AQ{w:World}{xs pre rest:List (List UInt8)}{x:List UInt8}{S:Nat->Prop}{W W3:World}{a:Act}(hS:∀ k,S k↔k=w.heap.size\/k=w.heap.size+1\/k=w.heap.size+1+1)
 (hr:RdStep S W W3) (af:∀ k,S k->k<W.heap.size) (c0:Boxed W3 w.heap.size 4 (.bool false)) (c1:Boxed W3 (w.heap.size+1) 3 (.int .i64 (pre.length+1))) (c2:Boxed W3 (w.heap.size+1+1) 4 (.bool (x == [42])))
 (hB:Below w.heap.size w W3) (ey:pre ++ [x]++rest=xs) (hl:pre.length+1<=8) (hg:Np.cV xs 0 false=Np.cV rest (pre.length+1) (x == [42])) :
 ic (qM w xs) (qN w xs) (pre ++ [x]) S W .normal a W3:=by
 have hw:dj (pre ++ [x])=(x == [42]):=by simp[dj]
 refine⟨S,hr,λ_ e=>.inl e,λk e=>by have:=af k e;have:=hr.size;omega,hS,c0,by simpa using c1,by rw[hw];exact c2,⟨by simpa using hl,λr h=>?_⟩,hB⟩
 have:r=rest:=List.append_cancel_left (h.symm.trans ey.symm)
 rw[hg,this,hw];simp
theorem jH(t:ByteArray)(ht:t.size<=140737488355328)(w:World) :
 Calls prog 118 #[.string t] w λe w'=>e = .returned (.bool (Np.ao t.data.toList))/\Below w.heap.size w w':=by
 refine (callsIn_wide (n:=0)).1 ?_;refine callsIn_of_wp_marks func118 rfl trivial ?_ rfl;simp only[ntmps118,List.size_toArray,List.length_cons,List.length_nil,Nat.reduceAdd,Nat.reduceSub,Array.replicate_succ,Array.replicate_zero,List.push_toArray,List.append_toArray,List.nil_append,List.cons_append];gi_wp2_with fail
 ·have he:(t.toList == [46])=true:=by assumption
  have cP:t.data.toList = [46]:=by rw[<-dQ];simpa using he
  exact pG (v:=.bool true) (by simp[results,results118,go_sem]) ⟨by rw[Np.ao,QbQ cP],(vQ _ _).alloc (bQ _) _⟩
 ·have he:(t.toList == [46])=false:=by assumption
  have cP:¬ t.data.toList = [46]:=by rw[<-dQ];simpa using he
  have hl:60<(t.size:Int):=by assumption
  exact pG (v:=.bool false) (by simp[results,results118,go_sem]) ⟨by rw[Np.ao,Qc cP,QbQ (by rw[be];omega)],(vQ _ _).alloc (bQ _) _⟩
 ·have he:(t.toList == [46])=false:=by assumption
  have cP:¬ t.data.toList = [46]:=by rw[<-dQ];simpa using he
  have hl:(t.size:Int)<=60:=by assumption
  have hv:Np.ao t.data.toList=Np.cV (Np.ar t.data.toList) 0 false:=by
   rw[Np.ao,Qc cP,Qc (by rw[be];omega),Np.ar,Qc cP]
  have HV:=jq hv;clear hv;have b0:=Boxed.new w 4 (.bool false);have b1:=Boxed.new (w.alloc (.cells #[.bool false] 4)) 3 (.int .i64 0);have b2:=Boxed.new ((w.alloc (.cells #[.bool false] 4)).alloc (.cells #[.int .i64 0] 3)) 4 (.bool false);simp only[World.size_alloc] at b1 b2;refine vx (n₀:=w.heap.size) (w0:=w) (first:=#[.string t]) (captured:=#[]) (gf:=187) rfl (enters_of func187 (by kernel_rfl) rfl) (mk:=λy=>#[.string t,y]) (λ_=>rfl)
   (ub t ht _ w) ((((vQ _ w).alloc (bQ _) _).alloc (by simp) _).alloc (by simp;omega) _) (by simp;omega) (λ_=>rfl) (qM w (Np.ar t.data.toList)) (qN w (Np.ar t.data.toList))
   (AP _ _ _ (by simp;omega)) (λc=>IS _ _ _ (by simp;omega) c)
   (λk=>k=w.heap.size\/k=w.heap.size+1\/k=w.heap.size+1+1) (by intro k h;omega) (by intro k h;simp;omega)
   ⟨λ_=>Iff.rfl,(b0.alloc _).alloc _,b1.alloc _,b2,⟨by simp,λrest h=>by rw[h];rfl⟩,(((vQ _ w).alloc (bQ _) _).alloc (by simp) _).alloc (by simp;omega) _⟩ ?round ?done ?stop
  case round=>
   rintro l0 pre x S W bw hI dz;gi_wp2;refine⟨S,RdStep.refl _ _,λk e=>.inl e,dz,?_⟩;intro l W₂ aq;obtain⟨hS,c0,c1,c2,hg,hB⟩:=AP w _ _ (by simp;omega) pre S W W₂ hI aq;have c0c:=c0.cell;have c1c:=c1.cell;have c2c:=c2.cell;have c0f:=c0.frozen;have c1f:=c1.frozen;have c2f:=c2.frozen;have hlen:=hg.1;have hx:x∈Np.ar t.data.toList:=bw.subset (by simp);have m9:x.length<=60:=by have:=Np.sr hx;rw[be] at this;omega
   have mz:(⟨x.toArray⟩:ByteArray).size<=140737488355328:=by rw[<-be];simp;omega
   obtain⟨rest,ey⟩:=bw;have fh:Np.cV (Np.ar t.data.toList) 0 false=Np.cV (x::rest) pre.length (dj pre):=hg.2 _ (by rw[<-ey];simp);have HR:=jq ey;have HG:=jq fh;have ol:∀ (b:Nat) (u:Value),w.heap.size<=b->Below w.heap.size w (W₂.setCell ⟨b,0,none⟩ u):=λb u hb=>hB.setCell (p:=⟨b,0,none⟩) hb u;have ft:∀ k,S k->k<W₂.heap.size:=λk e=>lqQ (dz k e) aq.size;clear ey fh hg hx;gi_wp2_with (refine⟨trivial,rfl,?_⟩;gi_at_call 188;refine (CallsIn.inRound l (callsIn_wide.2 (xy _ mz _))).mono ?_;rintro e w' ⟨rfl,rfl⟩)
   ·exact vr hS (RdStep.setCell (RdStep.refl S W₂) (p:=⟨w.heap.size+1,0,none⟩) (.inl ((hS _).2 (.inr (.inl rfl)))) _) ft (bI c0 (p:=⟨w.heap.size+1,0,none⟩) (by simp) _) (ol _ _ (by omega))
     (by rw[HG.out];have:dj pre=true:=by assumption
         simp[Np.cV,this])
   ·exact vr hS (RdStep.setCell (RdStep.refl S W₂) (p:=⟨w.heap.size+1,0,none⟩) (.inl ((hS _).2 (.inr (.inl rfl)))) _) ft (bI c0 (p:=⟨w.heap.size+1,0,none⟩) (by simp) _) (ol _ _ (by omega))
     (by rw[HG.out];have:8<pre.length+1:=by omega
         simp[Np.cV,this])
   ·have d6:x = [42]:=by assumption
    have e:(x == [42])=true:=by simp[d6]
    have mX:(pre.length:Int)+1<=8:=by assumption
    have h1:¬ dj pre=true:=by assumption
    have h2:¬ 8<pre.length+1:=by omega
    refine⟨trivial,?_⟩;gi_wp2;exact AQ hS (RdStep.setCell (RdStep.setCell (RdStep.refl S W₂) (p:=⟨w.heap.size+1,0,none⟩) (.inl ((hS _).2 (.inr (.inl rfl)))) _) (p:=⟨w.heap.size+1+1,0,none⟩) (.inl ((hS _).2 (.inr (.inr rfl)))) _) ft
     (bI (bI c0 (p:=⟨w.heap.size+1,0,none⟩) (by simp) _) (p:=⟨w.heap.size+1+1,0,none⟩) (by simp<;>omega) _)
     (bI (c1.set _) (p:=⟨w.heap.size+1+1,0,none⟩) (by simp<;>omega) _) (by rw[e];exact (bI c2 (p:=⟨w.heap.size+1,0,none⟩) (by simp) _).set _)
     ((ol _ _ (by omega)).setCell (p:=⟨w.heap.size+1+1,0,none⟩) (by simp;omega) _) HR.out (by omega) (by rw[HG.out];simp[Np.cV,h1,h2,d6])
   ·have hl:(!x == [42])=true/\(!Np.bT x)=true:=by assumption
    have d6:¬ x = [42]:=by assumption
    exact vr hS (RdStep.setCell (RdStep.setCell (RdStep.refl S W₂) (p:=⟨w.heap.size+1,0,none⟩) (.inl ((hS _).2 (.inr (.inl rfl)))) _) (p:=⟨w.heap.size+1+1,0,none⟩) (.inl ((hS _).2 (.inr (.inr rfl)))) _) ft
     (bI (bI c0 (p:=⟨w.heap.size+1,0,none⟩) (by simp) _) (p:=⟨w.heap.size+1+1,0,none⟩) (by simp<;>omega) _)
     ((ol _ _ (by omega)).setCell (p:=⟨w.heap.size+1+1,0,none⟩) (by simp;omega) _)
     (by rw[HG.out];have h2:Np.bT x=false:=by simpa using hl.2
         simp[Np.cV,d6,h2])
   ·have hl:(!x == [42])=false\/(!Np.bT x)=false:=by assumption
    have d6:¬ x = [42]:=by assumption
    have e:(x == [42])=false:=by simp[d6]
    have mX:(pre.length:Int)+1<=8:=by assumption
    have h1:¬ dj pre=true:=by assumption
    have h2:¬ 8<pre.length+1:=by omega
    have h3:Np.bT x=true:=by simpa [e] using hl
    exact AQ hS (RdStep.setCell (RdStep.setCell (RdStep.refl S W₂) (p:=⟨w.heap.size+1,0,none⟩) (.inl ((hS _).2 (.inr (.inl rfl)))) _) (p:=⟨w.heap.size+1+1,0,none⟩) (.inl ((hS _).2 (.inr (.inr rfl)))) _) ft
     (bI (bI c0 (p:=⟨w.heap.size+1,0,none⟩) (by simp) _) (p:=⟨w.heap.size+1+1,0,none⟩) (by simp<;>omega) _)
     (bI (c1.set _) (p:=⟨w.heap.size+1+1,0,none⟩) (by simp<;>omega) _) ((bI c2 (p:=⟨w.heap.size+1,0,none⟩) (by simp) _).set _)
     ((ol _ _ (by omega)).setCell (p:=⟨w.heap.size+1+1,0,none⟩) (by simp;omega) _) HR.out (by omega) (by rw[HG.out];simp[Np.cV,h1,h2,d6,h3,e])
  case done=>
   rintro D S W hD df aP ⟨hS,c0,c1,c2,hg,hB⟩ hK;have c0c:=c0.cell;have c0f:=c0.frozen;have jY:Np.cV (Np.ar t.data.toList) 0 false=true:=by rw[hg.2 [] (by simp)];rfl
   have qT:w.heap.size≠D:=λe=>df ((hS _).2 (.inl e.symm));clear hg;have HE:=jq jY;clear jY;gi_wp2;have hK':(W.setCell ⟨w.heap.size,0,none⟩ (.bool true)).heap[D]?=some (.deferred (some [])):=(wQ _ _ _ _ (by simpa using qT.symm)).trans hK;have c5:=(mN (c0.set (.bool true)) qT (.deferred none)).cell;exact iw hK' (v:=.bool true) (by simp[results,results118,go_sem,c5]) ⟨by rw[HV.out,HE.out],ib (hB.setCell (bQ _) _) (by simp at hD;omega) _⟩
  case stop=>
   rintro D c pre S W hD df aP gU ⟨rfl,hS,c0,hg,hB⟩ hK;have qT:w.heap.size≠D:=λe=>df ((hS _).2 (.inl e.symm));have HE:=jq hg;clear hg;gi_wp2;have c5:=(mN c0 qT (.deferred none)).cell;exact iw hK (v:=.bool false) (by simp[results,results118,go_sem,c5]) ⟨by rw[HV.out,HE.out],ib hB (by simp at hD;omega) _⟩
theorem jE(t:ByteArray)(ht:t.size<=140737488355328)(w:World) :
 Calls prog 48 #[.string t] w λe w'=>e = .returned (.bool (Np.ao t.data.toList))/\Below w.heap.size w w':=by
 go_enter func48,ntmps48;go_wp2_with (go_at_call 118;refine (jH _ ht _).mono ?_;rintro e w' ⟨rfl,hb⟩);go_ret;exact⟨rfl,hb⟩
end D
namespace D
open Go.RowKit Go.Shelf
attribute [local go_sem] Oper.semAt_some
def ff(W:World)(lm lr:Nat)(rem:List (List UInt8)):Prop:=
 ∃ (more:Bool) (r:ByteArray),Boxed W lm 4 (.bool more)/\Boxed W lr 9 (.string r)/\r.size<=140737488355328/\rem=if more then (Np.aR r.data.toList).reverse else []
theorem ff.it{B:Nat}{S:Nat->Prop}{W W':World}{lm lr:Nat}{rem:List (List UInt8)}(h:ff W lm lr rem)(hs:ItStep B S W W')(h1:S lm)(h2:S lr):ff W' lm lr rem:=by
 obtain⟨more,r,b1,b2,h3,h4⟩:=h;exact⟨more,r,eS b1 hs h1,eS b2 hs h2,h3,h4⟩
theorem ff.far{W:World}{lm lr:Nat}{rem:List (List UInt8)}(h:ff W lm lr rem){p:Addr}(h1:lm≠p.block)(h2:lr≠p.block)(u:Value):ff (W.setCell p u) lm lr rem:=by
 obtain⟨more,r,b1,b2,h3,h4⟩:=h;exact⟨more,r,bI b1 h1 u,bI b2 h2 u,h3,h4⟩
def ua(W:World)(lm lr:Nat)(rem:List (List UInt8))(e:Ending)(W':World):Prop:=
 (rem = []/\e = .returned (.tuple #[.string ⟨#[]⟩,.bool false])/\W'=W)\/
 ∃ x rest,rem=x::rest/\e = .returned (.tuple #[bl x,.bool true])/\ff W' lm lr rest/\∃ b u,(b=lm\/b=lr)/\W'=W.setCell ⟨b,0,none⟩ u
theorem DI(lm lr:Nat)(hne:lm≠lr)(rem:List (List UInt8))(w:World)(h:ff w lm lr rem) :
 Calls prog 304 #[.pointer (some ⟨lm,0,none⟩),.pointer (some ⟨lr,0,none⟩)] w (ua w lm lr rem):=by
 obtain⟨more,r,b1,b2,h3,h4⟩:=h;have HR:=jq h4;clear h4;have c1:=b1.cell;have c2:=b2.cell;have f1:=b1.frozen;have f2:=b2.frozen
 cases more with
 | false=>
  go_enter func304,ntmps304;go_wp2_with fail;refine bodyPost_ret (v:=.tuple #[.string ⟨#[]⟩,.bool false]) (by simp[results,results304,go_sem]) rfl ?_;exact .inl ⟨HR.out,rfl,rfl⟩
 | true=>
  go_enter func304,ntmps304;go_wp2_with fail;refine (DD _ h3 _ (by decide) (by decide) _).mono ?_;rintro e w' ⟨q,hq,rfl,rfl⟩;rcases hq with ⟨rfl,bX⟩ | ⟨a,b,dO,oE,rfl⟩
  ·have bp:Np.aR r.data.toList = [r.data.toList]:=Np.nh bX;have HS:=jq bp;clear bp bX;go_wp2_with fail;refine bodyPost_ret (v:=.tuple #[.string r,.bool true]) (by simp[results,results304,go_sem]) rfl ?_;refine .inr ⟨r.data.toList,[],by rw[HR.out,QbQ trivial,HS.out];rfl,rfl,⟨false,r,b1.set _,bI b2 (by simpa using hne.symm) _,h3,rfl⟩,lm,_,.inl rfl,rfl⟩
  ·have i8:a.length+1+b.length=r.size:=by rw[<-be,dO];simp;omega
   have bp:Np.aR r.data.toList=Np.aR a ++ [b]:=by rw[dO];exact (Np.rE a b).trans (by rw[Np.nh oE])
   have nI:(r.extract (a.length+1) r.size).data.toList=b:=by rw[uh,dO];simp
   have m8:(r.extract 0 a.length).data.toList=a:=by rw[yU,dO];simp
   have tW:Hid (r.extract (a.length+1) r.size=⟨b.toArray⟩):=jq (mF (by rw[nI]));have yB:=jq m8;have HS:=jq bp;clear bp nI m8 dO oE;have sL:a.length<=140737488355328:=by omega
   have Gg:a.length+1<=r.size:=by omega
   have YG:(a.length:Int)+1<=(r.size:Int):=by omega
   clear i8;go_wp2_with fail;refine bodyPost_ret (v:=.tuple #[.string (r.extract (a.length+1) r.size),.bool true]) (by simp[results,results304,go_sem]) rfl ?_;refine .inr ⟨b,(Np.aR a).reverse,by rw[HR.out,QbQ trivial,HS.out];simp,by rw[tW.out],⟨true,r.extract 0 a.length,bI b1 (by simpa using hne) _,b2.set _,by rw[<-be,yB.out];omega,by rw[yB.out];rfl⟩,lr,_,.inr rfl,rfl⟩
theorem DO(t:ByteArray)(ht:t.size<=140737488355328)(w:World) :
 Calls prog 286 #[.string t] w λe w'=>e = .returned (.func (.func 304) #[] #[.pointer (some ⟨w.heap.size+1,0,none⟩),.pointer (some ⟨w.heap.size,0,none⟩)])/\
  ff w' (w.heap.size+1) w.heap.size (Np.ar t.data.toList)/\Below w.heap.size w w'/\w'.heap.size=w.heap.size+2:=by
 have b0:=Boxed.new w 9 (.string t);have hb:∀ o o',Below w.heap.size w ((w.alloc o).alloc o'):=λo o'=>((vQ _ w).alloc (bQ _) _).alloc (by simp) _;by_cases he:t.data.toList = [46]
 ·have cP:(t.toList == [46])=true:=by rw[dQ,he];rfl
  have b1:=Boxed.new (w.alloc (.cells #[.string t] 9)) 4 (.bool false);rw[World.size_alloc] at b1;have HB:Hid (Np.ar t.data.toList = []):=jq (by simp[Np.ar,he]);clear he;go_enter func286,ntmps286;go_wp2_with fail;go_ret;exact⟨rfl,⟨false,t,b1,b0.alloc _,ht,by rw[HB.out];rfl⟩,hb _ _,by simp⟩
 ·have cP:(t.toList == [46])=false:=by rw[dQ];simpa using he
  have b1:=Boxed.new (w.alloc (.cells #[.string t] 9)) 4 (.bool true);rw[World.size_alloc] at b1;have HB:Hid (Np.ar t.data.toList=(Np.aR t.data.toList).reverse):=jq (by simp[Np.ar,he]);clear he;go_enter func286,ntmps286;go_wp2_with fail;go_ret;exact⟨rfl,⟨true,t,b1,b0.alloc _,ht,by rw[HB.out];rfl⟩,hb _ _,by simp⟩
theorem Fq:∀ a b:List UInt8,Lib.compareBytes a b=Np.cW a b:=by
 intro a
 induction a with
 | nil=>
  intro b
  cases b with
  | nil=>rfl
  | cons y b=>simp[Lib.compareBytes,Np.cW,Op.bytesLess]
 | cons x a ih=>
  intro b
  cases b with
  | nil=>simp[Lib.compareBytes,Np.cW,Op.bytesLess]
  | cons y b=>
   rw[Lib.compareBytes,ih b];by_cases h1:x<y
   ·simp[Np.cW,Op.bytesLess,h1]
   ·by_cases h2:y<x
    ·have h3:¬ x=y:=λe=>by subst e;exact h1 h2
     simp[Np.cW,Op.bytesLess,h1,h2,h3]
    ·have h3:x=y:=by
      apply UInt8.toNat_inj.1;simp only[UInt8.lt_iff_toNat_lt] at h1 h2;omega
     subst h3;simp[Np.cW,Op.bytesLess,h1]
theorem IF(s t:ByteArray)(w:World) :
 Calls prog 287 #[.string s,.string t] w λe w'=>e = .returned (.int .i64 (Np.cW s.data.toList t.data.toList))/\w=w':=
 (Tryz.strings_Compare s t w).mono λe w' ⟨he,hw⟩=>⟨by rw[he,Fq],hw.symm⟩
def tt(g lm lr l8:Nat)(S:Nat->Prop):Prop:=∀ k,S k↔k=g\/k=g+1\/k=lm\/k=lr\/k=l8
def tr(w:World)(g lm lr l8:Nat)(fv:Value)(m n:List UInt8)(pre:List (List UInt8))(S:Nat->Prop)(W:World):Prop:=
 tt g lm lr l8 S/\Boxed W g 3 (.int .i64 0)/\Boxed W (g+1) 34 (.int .i64 0)/\Boxed W l8 264 fv/\
 (∃ rem,ff W lm lr rem/\∀ rest,Np.ar m=pre++rest->Np.gD (Np.ar m) (Np.ar n)=Np.gD rest rem)/\Below w.heap.size w W
def tu(w:World)(g lm lr l8:Nat)(m n:List UInt8)(c:Code)(_:List (List UInt8))(S:Nat->Prop)(W:World):Prop:=
 c = .ret/\tt g lm lr l8 S/\Boxed W g 3 (.int .i64 (Np.gD (Np.ar m) (Np.ar n)))/\Boxed W (g+1) 34 (.int .i64 0)/\Below w.heap.size w W
theorem yP(w:World)(g lm lr l8:Nat)(fv:Value)(m n:List UInt8)(B:Nat)(hB:w.heap.size<=B):fN B (tr w g lm lr l8 fv m n):=by
 rintro s S W W' ⟨hS,h1,h2,h3,⟨rem,h4,h5⟩,h6⟩ aq;exact⟨hS,eS h1 aq ((hS _).2 (.inl rfl)),eS h2 aq ((hS _).2 (.inr (.inl rfl))),eS h3 aq ((hS _).2 (.inr (.inr (.inr (.inr rfl))))),
  ⟨rem,h4.it aq ((hS _).2 (.inr (.inr (.inl rfl)))) ((hS _).2 (.inr (.inr (.inr (.inl rfl))))),h5⟩,nt h6 aq hB (bQ _)⟩
theorem Fr(w:World)(g lm lr l8:Nat)(m n:List UInt8)(B:Nat)(hB:w.heap.size<=B)(c:Code):fN B (tu w g lm lr l8 m n c):=by
 rintro s S W W' ⟨hc,hS,h1,h2,h6⟩ aq;exact⟨hc,hS,eS h1 aq ((hS _).2 (.inl rfl)),eS h2 aq ((hS _).2 (.inr (.inl rfl))),nt h6 aq hB (bQ _)⟩
theorem ua.rd{W W':World}{lm lr:Nat}{rem:List (List UInt8)}{e:Ending}(h:ua W lm lr rem e W'):(rem = []/\e = .returned (.tuple #[.string ⟨#[]⟩,.bool false])/\W'=W)\/
 ∃ x rest,rem=x::rest/\e = .returned (.tuple #[bl x,.bool true])/\ff W' lm lr rest/\(∀ S:Nat->Prop,S lm->S lr->RdStep S W W')/\(∀ b t v,b≠lm->b≠lr->Boxed W b t v->Boxed W' b t v)/\(∀ (n:Nat) (w:World),n<=lm->n<=lr->Below n w W->Below n w W'):=by
 rcases h with h | ⟨x,rest,h1,h2,h3,b,u,hb,rfl⟩
 ·exact .inl h
 ·refine .inr ⟨x,rest,h1,h2,h3,λS s1 s2=>?_,λb' t v n1 n2 hv=>bI hv (by rcases hb with rfl | rfl<;>assumption) _,λn w n1 n2 hB=>hB.setCell (p:=⟨b,0,none⟩) (by rcases hb with rfl | rfl<;>assumption) _⟩;exact RdStep.setCell (RdStep.refl S W) (.inl (by rcases hb with rfl | rfl<;>assumption)) _
theorem yR{w:World}{lm lr l8:Nat}{fv:Value}{m n:List UInt8}{pre:List (List UInt8)}{S:Nat->Prop}{W W3:World}{a:Act}{v0 v1:Value}{q:Int}(hS:tt w.heap.size lm lr l8 S)
 (hr:RdStep S W W3) (af:∀ k,S k->k<W.heap.size) (c0:Boxed W3 w.heap.size 3 v0) (c1:Boxed W3 (w.heap.size+1) 34 v1) (hB:Below w.heap.size w W3) (hv:Np.gD (Np.ar m) (Np.ar n)=q) :
 ic (tr w w.heap.size lm lr l8 fv m n) (tu w w.heap.size lm lr l8 m n) pre S W .ret a ((W3.setCell ⟨w.heap.size,0,none⟩ (.int .i64 q)).setCell ⟨w.heap.size+1,0,none⟩ (.int .i64 0)):=
 ⟨S,(hr.setCell (.inl ((hS _).2 (.inl rfl))) _).setCell (.inl ((hS _).2 (.inr (.inl rfl)))) _,λ_ e=>.inl e,λk e=>by have:=af k e;have:=hr.size;simp[World.setCell];omega,rfl,hS,
  by rw[hv];exact bI (c0.set _) (by simp) _,(bI c1 (by simp) _).set _,(hB.setCell (bQ _) _).setCell (by simp) _⟩
def kL(a b:List UInt8):Value:=if Np.ao a&&Np.ao b then .tuple #[.int .i64 (Np.gE a b),.int .i64 0] else .tuple #[.int .i64 0,.int .i64 11]
theorem Mf(a b:ByteArray)(ha:a.size<=140737488355328)(hb:b.size<=140737488355328)(w:World) :
 Calls prog 256 #[.string a,.string b] w λe w'=>e = .returned (kL a.data.toList b.data.toList)/\Below w.heap.size w w':=by
 refine (callsIn_wide (n:=0)).1 ?_;refine callsIn_of_wp_marks func256 rfl trivial ?_ rfl;simp only[ntmps256,List.size_toArray,List.length_cons,List.length_nil,Nat.reduceAdd,Nat.reduceSub,Array.replicate_succ,Array.replicate_zero,List.push_toArray,List.append_toArray,List.nil_append,List.cons_append];have b0:=Boxed.new w 3 (.int .i64 0);have b1:=Boxed.new (w.alloc (.cells #[.int .i64 0] 3)) 34 (.int .i64 0);rw[World.size_alloc] at b1;replace b0:=b0.alloc (.cells #[.int .i64 0] 34);have bJ:Below w.heap.size w ((w.alloc (.cells #[.int .i64 0] 3)).alloc (.cells #[.int .i64 0] 34)):=((vQ _ w).alloc (bQ _) _).alloc (by simp) _;gi_wp2_with fail;refine⟨trivial,rfl,?_⟩;refine (callsIn_wide.2 (jH a ha _)).mono ?_;rintro e w1 ⟨rfl,ay⟩;replace b0:=mM b0 ay (by simp;omega);replace b1:=mM b1 ay (by simp);replace bJ:=bJ.trans (ay.mono (by simp;omega));clear ay;have uy:∀ (W:World) (tmps:Array Value),Boxed W w.heap.size 3 (.int .i64 0)->Boxed W (w.heap.size+1) 34 (.int .i64 11)->Below w.heap.size w W->(Np.ao a.data.toList&&Np.ao b.data.toList)=false->
  tmps[4]?=some (.pointer (some ⟨w.heap.size,0,none⟩))->tmps[5]?=some (.pointer (some ⟨w.heap.size+1,0,none⟩))->
  bodyPostM Fence.wide 0 prog Tryz.f256 (λe w'=>e = .returned (kL a.data.toList b.data.toList)/\Below w.heap.size w w') .ret { tmps:=tmps,defers:=[] } W:=λW tmps c0 c1 hB hv t4 t5=>by
  have d0:=c0.cell;have d1:=c1.cell;exact pG (v:=.tuple #[.int .i64 0,.int .i64 11]) (by simp[results,results256,go_sem,d0,d1,t4,t5]) ⟨by rw[kL,hv];rfl,hB⟩
 have ga:=jq uy;clear uy;have c0:=b0.cell;have c1:=b1.cell;have f0:=b0.frozen;have f1:=b1.frozen
 cases va:Np.ao a.data.toList with
 | false=>
  gi_wp2_with fail;refine⟨trivial,?_⟩;gi_wp2_with fail;refine ga.out _ _ (bI (b0.set _) (by simp) _) ((bI b1 (by simp) _).set _) ((bJ.setCell (bQ _) _).setCell (by simp) _) (by rw[va];rfl) rfl rfl
 | true=>
  have VA:=jq va;clear va c0 c1 f0 f1;gi_wp2_with fail;refine⟨trivial,rfl,?_⟩;refine (callsIn_wide.2 (jH b hb _)).mono ?_;rintro e w2 ⟨rfl,ag⟩;have bp:w.heap.size+1<w1.heap.size:=b1.lt;replace b0:=mM b0 ag (by omega);replace b1:=mM b1 ag bp;replace bJ:=bJ.trans (ag.mono (by omega));have eN:=ag.size;clear ag;have c0:=b0.cell;have c1:=b1.cell;have f0:=b0.frozen;have f1:=b1.frozen
  cases vb:Np.ao b.data.toList with
  | false=>
   gi_wp2_with fail;refine ga.out _ _ (bI (b0.set _) (by simp) _) ((bI b1 (by simp) _).set _) ((bJ.setCell (bQ _) _).setCell (by simp) _) (by rw[vb,Bool.and_false]) rfl rfl
  | true=>
   have VV:Hid ((Np.ao a.data.toList&&Np.ao b.data.toList)=true):=jq (by rw[VA.out,vb];rfl);clear vb VA ga;by_cases dO:a.data.toList=b.data.toList
   ·have Gf:(a.toList == b.toList)=true:=by rw[dQ,dQ,dO];simp
    gi_wp2_with fail;have d0:=(bI (b0.set (.int .i64 0)) (p:=⟨w.heap.size+1,0,none⟩) (by simp) (.int .i64 0)).cell;have d1:=((bI b1 (p:=⟨w.heap.size,0,none⟩) (by simp) (.int .i64 0)).set (.int .i64 0)).cell;exact pG (v:=.tuple #[.int .i64 0,.int .i64 0]) (by simp[results,results256,go_sem,d0,d1]) ⟨by rw[kL,VV.out,dO];simp[Np.gE],(bJ.setCell (bQ _) _).setCell (by simp) _⟩
   ·have Gf:(a.toList == b.toList)=false:=by rw[dQ,dQ];simpa using dO
    have HV:Hid (kL a.data.toList b.data.toList = .tuple #[.int .i64 (Np.gD (Np.ar a.data.toList) (Np.ar b.data.toList)),.int .i64 0]):=jq (by rw[kL,VV.out];simp[Np.gE,dO]);clear dO;gi_wp2_with fail;refine⟨trivial,rfl,?_⟩;refine (callsIn_wide.2 (DO b hb _)).mono ?_;rintro e w3 ⟨rfl,im,ai,bu⟩;have eo:=jq bu;clear bu;replace b0:=mM b0 ai (by omega);replace b1:=mM b1 ai (by omega);replace bJ:=bJ.trans (ai.mono (by omega));clear ai;have hl:=bJ.size;have b8:=Boxed.new w3 264 (.func (.func 304) #[] #[.pointer (some ⟨w2.heap.size+1,0,none⟩),.pointer (some ⟨w2.heap.size,0,none⟩)]);replace b0:=b0.alloc (.cells #[.func (.func 304) #[] #[.pointer (some ⟨w2.heap.size+1,0,none⟩),.pointer (some ⟨w2.heap.size,0,none⟩)]] 264);replace b1:=b1.alloc (.cells #[.func (.func 304) #[] #[.pointer (some ⟨w2.heap.size+1,0,none⟩),.pointer (some ⟨w2.heap.size,0,none⟩)]] 264);replace im:ff (w3.alloc (.cells #[.func (.func 304) #[] #[.pointer (some ⟨w2.heap.size+1,0,none⟩),.pointer (some ⟨w2.heap.size,0,none⟩)]] 264)) (w2.heap.size+1) w2.heap.size (Np.ar b.data.toList):=im.it (B:=w3.heap.size) (S:=λ_=>True) (qe _) trivial trivial;replace bJ:=bJ.alloc bJ.size (.cells #[.func (.func 304) #[] #[.pointer (some ⟨w2.heap.size+1,0,none⟩),.pointer (some ⟨w2.heap.size,0,none⟩)]] 264);clear c0 c1 f0 f1;have n8:=Boxed.new w3 264 .nilFunc;have n8c:=n8.cell;have n8f:=n8.frozen;gi_wp2_with fail;clear n8 n8c n8f;have Na:=enters_of func304 (by kernel_rfl) rfl;have Zj:w.heap.size+1<w2.heap.size:=by omega
    have bF:w3.heap.size=w2.heap.size+2:=eo.out;refine vx (n₀:=w.heap.size) (w0:=w) (first:=#[.string a]) (captured:=#[]) (gf:=187) rfl (enters_of func187 (by kernel_rfl) rfl) (mk:=λy=>#[.string a,y]) (λ_=>rfl)
     (ub a ha _ w) bJ bJ.size (λ_=>rfl) (tr w w.heap.size (w2.heap.size+1) w2.heap.size w3.heap.size (.func (.func 304) #[] #[.pointer (some ⟨w2.heap.size+1,0,none⟩),.pointer (some ⟨w2.heap.size,0,none⟩)]) a.data.toList b.data.toList)
     (tu w w.heap.size (w2.heap.size+1) w2.heap.size w3.heap.size a.data.toList b.data.toList)
     (yP _ _ _ _ _ _ _ _ _ bJ.size) (λc=>Fr _ _ _ _ _ _ _ _ bJ.size c)
     (λk=>k=w.heap.size\/k=w.heap.size+1\/k=w2.heap.size+1\/k=w2.heap.size\/k=w3.heap.size) (by intro k h;omega) (by intro k h;simp;omega)
     ⟨λ_=>Iff.rfl,b0,b1,b8,⟨_,im,λrest h=>by rw[h];rfl⟩,bJ⟩ ?round ?done ?stop
    case round=>
     rintro l0 pre x S W bw hI dz;clear bF;gi_wp2;refine⟨S,RdStep.refl _ _,λk e=>.inl e,dz,?_⟩;intro l W₂ aq;obtain⟨hS,c0,c1,c8,⟨rem,hp,jx⟩,hB⟩:=yP w w.heap.size _ _ _ _ _ _ _ bJ.size pre S W W₂ hI aq;have c8c:=c8.cell;have ft:∀ k,S k->k<W₂.heap.size:=λk e=>lqQ (dz k e) aq.size;have hx:x∈Np.ar a.data.toList:=bw.subset (by simp);have m9:x.length<=140737488355328:=by have:=Np.sr hx;rw[be] at this;omega
     obtain⟨rest,ey⟩:=bw;have fh:=jx (x::rest) (by rw[<-ey];simp);have HR:=jq ey;have HG:=jq fh;clear ey fh jx hx hI aq b0 b1 b8 im;gi_wp2_with fail;refine⟨trivial,rfl,?_⟩;refine (CallsIn.inRound l (callsIn_wide.2 (DI (w2.heap.size+1) w2.heap.size (by omega) rem _ hp))).mono ?_;intro e W3 hP;rcases hP.rd with ⟨fX,rfl,rfl⟩ | ⟨y,rem',fX,rfl,hp',aZ,dP,dB⟩
     ·have c0c:=c0.cell;have c1c:=c1.cell;have c0f:=c0.frozen;have c1f:=c1.frozen;have iu:=jq fX;clear fX hP;gi_wp2_with fail;exact yR hS (RdStep.refl S _) ft c0 c1 hB (by rw[HG.out,iu.out];rfl)
     ·have iu:=jq fX;replace c0:=dP _ _ _ (by omega) (by omega) c0;replace c1:=dP _ _ _ (by omega) (by omega) c1;replace c8:=dP _ _ _ (by have:=eo.out;omega) (by have:=eo.out;omega) c8;have nG:=aZ S ((hS _).2 (.inr (.inr (.inl rfl)))) ((hS _).2 (.inr (.inr (.inr (.inl rfl)))));have hB':=dB w.heap.size w (by omega) (by omega) hB;have c0c:=c0.cell;have c1c:=c1.cell;have c0f:=c0.frozen;have c1f:=c1.frozen;clear fX hP aZ dP dB c8c hp hB;have fh:Np.gD (Np.ar a.data.toList) (Np.ar b.data.toList)=if Np.cW x y≠0 then Np.cW x y else Np.gD rest rem':=by rw[HG.out,iu.out];rfl
      have nk:=jq fh;clear fh HG;have cO:=IF ⟨x.toArray⟩ ⟨y.toArray⟩ W3;by_cases hc:Np.cW x y=0
      ·have dR:(Np.cW x y != 0)=false:=by simp[hc]
       have HC:=jq hc;clear hc;gi_wp2_with (refine⟨trivial,rfl,?_⟩;gi_at_call 287;refine (CallsIn.inRound l (callsIn_wide.2 cO)).mono ?_;rintro e w' ⟨rfl,rfl⟩);refine⟨S,nG,λ_ e=>.inl e,λk e=>by have:=ft k e;have:=nG.size;omega,hS,c0,c1,c8,⟨rem',hp',λr hr=>?_⟩,hB'⟩
       have:r=rest:=List.append_cancel_left (hr.symm.trans HR.out.symm)
       rw[nk.out,Qc (λh=>h HC.out),this]
      ·have dR:(Np.cW x y != 0)=true:=by simpa using hc
       have HC:=jq hc;clear hc;gi_wp2_with (refine⟨trivial,rfl,?_⟩;gi_at_call 287;refine (CallsIn.inRound l (callsIn_wide.2 cO)).mono ?_;rintro e w' ⟨rfl,rfl⟩);exact yR hS nG ft c0 c1 hB' (by rw[nk.out,QbQ HC.out])
    case done=>
     rintro D S W hD df aP ⟨hS,c0,c1,c8,⟨rem,hp,jx⟩,hB⟩ hK;clear bF b0 b1 b8 im;have c0c:=c0.cell;have c1c:=c1.cell;have c0f:=c0.frozen;have c1f:=c1.frozen;have jY:Np.gD (Np.ar a.data.toList) (Np.ar b.data.toList) = -1:=by rw[jx [] (by simp)];rfl
     have HE:=jq jY;have qS:w.heap.size≠D:=λe=>df ((hS _).2 (.inl e.symm));have jW:w.heap.size+1≠D:=λe=>df ((hS _).2 (.inr (.inl e.symm)));have oa:w.heap.size<=D:=by have:=bJ.size;omega
     clear jY jx hp c8;gi_wp2;have hK':((W.setCell ⟨w.heap.size,0,none⟩ (.int .i64 (-1))).setCell ⟨w.heap.size+1,0,none⟩ (.int .i64 0)).heap[D]?=some (.deferred (some [])):=
      (wQ _ _ _ _ (by simpa using jW.symm)).trans ((wQ _ _ _ _ (by simpa using qS.symm)).trans hK)
     have d0:=(mN (bI (c0.set (.int .i64 (-1))) (p:=⟨w.heap.size+1,0,none⟩) (by simp) (.int .i64 0)) qS (.deferred none)).cell;have d1:=(mN ((bI c1 (p:=⟨w.heap.size,0,none⟩) (by simp) (.int .i64 (-1))).set (.int .i64 0)) jW (.deferred none)).cell;exact iw hK' (v:=.tuple #[.int .i64 (-1),.int .i64 0]) (by simp[results,results256,go_sem,d0,d1]) ⟨by rw[HV.out,HE.out],ib ((hB.setCell (bQ _) _).setCell (by simp) _) oa _⟩
    case stop=>
     rintro D c pre S W hD df aP gU ⟨rfl,hS,c0,c1,hB⟩ hK;clear bF b0 b1 b8 im;have qS:w.heap.size≠D:=λe=>df ((hS _).2 (.inl e.symm));have jW:w.heap.size+1≠D:=λe=>df ((hS _).2 (.inr (.inl e.symm)));have oa:w.heap.size<=D:=by have:=bJ.size;omega
     gi_wp2;have d0:=(mN c0 qS (.deferred none)).cell;have d1:=(mN c1 jW (.deferred none)).cell;exact iw hK (v:=.tuple #[.int .i64 (Np.gD (Np.ar a.data.toList) (Np.ar b.data.toList)),.int .i64 0]) (by simp[results,results256,go_sem,d0,d1]) ⟨by rw[HV.out],ib hB oa _⟩
end D
section
open Go.RowKit
section
variable {P:Program} {ops:Array Oper} {Q:Exit->Act->World->Prop}
theorem aOZ{w:World}{D A T:List Nat}{dst:Nat->Nat}{val:Nat->Value}{base:List (Nat×Value)}{m p0:Nat}{ds:List Deferred}
 (hw:∀ (i:Nat) (o:Oper),ops[i]?=some o->∀ e∈o.after,Region.binds .any e=true->e.on<i) (pV:p0<ops.size) (zZ:p0∉D)
 (As:∀ (i:Nat) (o:Oper),ops[i]?=some o->i∉D->i∉T->∃ e∈o.after,Region.binds .any e=true/\e.on∉D/\e.on<ops.size)
 (zG:∀ i∈D,i∉A->∃ o:Oper,ops[i]?=some o/\o.dst=some (dst i)) (af:∀ i∈D,dst i<m) (qZ:∀ i∈D,∀ j∈D,j≠i->dst i≠dst j) (gm:∀ i∈D,∀ q∈base,dst i≠q.1)
 (hy:∀ i∈D,i∉A->∀ o:Oper,ops[i]?=some o->∀ a:Act,(∀ q∈base,a.eval (.tmp q.1)=q.2)->(∀ e∈o.after,Region.binds .any e=true->e.on∈D->a.eval (.tmp (dst e.on))=val e.on)->YieldsIn P ops (λw'=>w'=w) o (val i) a)
 (og:∀ p∈T,∀ f listed a,Held ops D A dst val base m ds (f+1) listed a->p∈Region.ready .any ops listed->wpOp P ops Q p (wpAny P .any ops Q f (listed.setIfInBounds p true)) a w) :
 ∀ f listed a,Held ops D A dst val base m ds f listed a->wpAny P .any ops Q f listed a w:=by
 intro f
 induction f with
 | zero=>intro listed a h;exact absurd h.good (jJ.none pV zZ)
 | succ f ih=>
  intro listed a h;have hg:=h.good;refine⟨λh0=>absurd h0 (PY hw hg.size p0 pV (hg.not p0 pV zZ)),λi hi=>?_⟩;obtain⟨hr,o,ho,cX⟩:=mem_ready.1 hi;by_cases hip:i∈T
  ·exact og i hip f listed a h hi
  ·have fx:i∈D:=Decidable.byContradiction λfx=>by
    obtain⟨e,he,oq,eL,hes⟩:=As i o ho fx hip;have h1:=cX e he oq;have h2:=hg.not e.on hes eL;have h3:e.on<listed.size:=by rw[hg.size];exact hes
    simp[Array.getD,h3] at h1 h2;rw[h1] at h2
    cases h2
   have bE:i∉A:=λhA=>by
    have h1:=h.done i hA;have h3:i<listed.size:=by rw[hg.size];exact (eQ.1 ho).1
    simp[Array.getD,h3] at h1 hr;rw[h1] at hr;cases hr
   obtain⟨o',ho',hd⟩:=zG i fx bE;rw[ho] at ho';cases ho';have zF:∀ e∈o.after,Region.binds .any e=true->e.on∈D->a.eval (.tmp (dst e.on))=val e.on:=λe he oq hD=>hg.val _ hD (cX e he oq);have hq:=jJ.step (P:=P) hg fx hr ho hd (af i fx) (qZ i fx) (gm i fx) (hy i fx bE o ho a hg.base zF);exact wpOp_of_qOp (C:=λw'=>w'=w) rfl (λa' w' hw' h'=>by subst hw';exact ih _ a' ⟨h',λj hj=>tm (h.done j hj),yN hi h.clo⟩) hq
def Qx(ops:Array Oper)(ord D A T:List Nat)(p0:Nat)(dst:Nat->Nat):Bool:=
 D4 ops&&D0 ops D T&&decide (p0<ops.size)&&!D.contains p0&&D.all λi=>ord.contains i&&(A.contains i||match ops[i]? with
  | some o=>o.dst == some (dst i)
  | none=>false)
theorem aCY{w:World}{ord D A:List Nat}{dst:Nat->Nat}{val:Nat->Value}{a0:Act}{m:Nat}(T:List Nat)(p0:Nat){dsts:List Nat}{ds:List Deferred}{f:Nat}{listed:Array Bool}{a:Act}
 (h1:∀ i∈ord,dst i<m/\dst i∈dsts) (h2:∀ i∈ord,∀ j∈ord,j≠i->dst i≠dst j)
 (h:Held ops D A dst val (gJ a0 m dsts) m ds f listed a) (hB:Qx ops ord D A T p0 dst=true)
 (hy:∀ i∈D,i∉A->∀ o:Oper,ops[i]?=some o->∀ a:Act,(∀ q∈gJ a0 m dsts,a.eval (.tmp q.1)=q.2)->(∀ e∈o.after,Region.binds .any e=true->e.on∈D->a.eval (.tmp (dst e.on))=val e.on)->YieldsIn P ops (λw'=>w'=w) o (val i) a)
 (og:∀ p∈T,∀ f listed a,Held ops D A dst val (gJ a0 m dsts) m ds (f+1) listed a->p∈Region.ready .any ops listed->((k:Nat)->(_:we ops D p k=true:=by kernel_rfl)->a.eval (.tmp (dst k))=val k)->wpOp P ops Q p (wpAny P .any ops Q f (listed.setIfInBounds p true)) a w) :
 wpAny P .any ops Q f listed a w:=by
 simp only[Qx,Bool.and_eq_true,Qa,Bool.not_eq_true',List.all_eq_true,List.contains_iff_mem,Bool.or_eq_true] at hB;obtain⟨⟨⟨⟨b1,b2⟩,b3⟩,b4⟩,b5⟩:=hB;have jw:p0∉D:=λe=>by rw[List.contains_iff_mem.2 e] at b4;cases b4
 refine aOZ (T:=T) (QO b1) b3 jw (QI b2) (λi hi hA=>?_) (λi hi=>(h1 i (b5 i hi).1).1) (λi hi j hj=>h2 i (b5 i hi).1 j (b5 j hj).1) (λi hi=>DQ (h1 i (b5 i hi).1).2) hy (λp GU f listed a hH hr=>og p GU f listed a hH hr (λk hk=>?_)) f listed a h
 ·have:=(b5 i hi).2.resolve_left hA
  cases ho:ops[i]? with
  | none=>rw[ho] at this;cases this
  | some o=>rw[ho] at this;exact⟨o,rfl,by simpa using this⟩
 ·obtain⟨_,o,ho,cX⟩:=mem_ready.1 hr;simp only[we,ho,Bool.and_eq_true,List.contains_iff_mem] at hk;obtain⟨zO,hk⟩:=hk;rw[Array.any_eq_true'] at hk;obtain⟨e,he,h3⟩:=hk;simp only[Bool.and_eq_true,beq_iff_eq] at h3;obtain⟨h4,rfl⟩:=h3;exact hH.good.val _ zO (cX e he h4)
end
end
end Go.Proofs.YtadhigmjilijcaaGreatDoor
