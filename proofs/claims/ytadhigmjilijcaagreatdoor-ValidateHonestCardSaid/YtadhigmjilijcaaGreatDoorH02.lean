/- No condition. -/
import Derived.Test.YtadhigmjilijcaaGreatDoorRows
import Derived.ProofKit
import Derived.OpenShut
import Derived.Deep.DeepHandedRow
import Derived.Shelf.SlicesE.Clone
import Derived.Shelf.SlSortCmp.WholeK
import Derived.Test.YtadhigmjilijcaaGreatDoorH01
set_option linter.all false
set_option maxRecDepth 100000
set_option maxHeartbeats 8000000
namespace Go.Proofs.YtadhigmjilijcaaGreatDoor
open Go.Proofs.Tryz
section
open Go.RowKit
theorem brK{a b:Bool}(h:a=b):Ending.returned (.tuple #[.bool a,.int .i64 0]) = .returned (.tuple #[.bool b,.int .i64 0]):=by rw[h]
def Np.Aw(s z:ByteArray):Bool:=decide (z.size<=s.size)&&((s.extract (s.size - z.size) s.size).toList == z.toList)
def Np.under(s z:ByteArray):Bool:=(s.toList == z.toList)||(z.toList == [46])||(decide (z.size<s.size)&&Np.Aw s z&&((s.data.toList[s.size - z.size - 1]?).map UInt8.toNat == some 46))
theorem bEJ(s z:ByteArray)(h:z.size<=s.size):Np.Aw s z=(s.data.toList.drop (s.data.toList.length - z.data.toList.length) == z.data.toList):=by
 unfold Np.Aw;rw[uQ h,Bool.true_and,dQ,dQ,Fh,bO,bO]
theorem Mp(s z:ByteArray):Np.under s z=Np.aW s.data.toList z.data.toList:=by
 unfold Np.under Np.aW;rw[dQ,dQ,bO,bO];congr 1;by_cases h:z.size<s.size
 ·rw[bEJ s z (by omega),bO,bO,uQ h];congr 1;have e:s.data.toList[s.size - z.size - 1]?=some (s[s.size - z.size - 1]'(by omega)):=zq s _ (by omega);rw[e];simp only[Option.map_some];rw[Bool.eq_iff_iff];simp only[beq_iff_eq,Option.some.injEq];constructor
  ·intro h;apply UInt8.toNat_inj.1;rw[h];rfl
  ·intro h;rw[h];rfl
 ·rw[tQ h];rfl
theorem aIY(s z:ByteArray)(hs:s.size<=140737488355328)(hz:z.size<=140737488355328)(w:World) :
 Calls prog 191 #[.string s,.string z] w λe w'=>e = .returned (.bool (Np.Aw s z))/\w'=w:=by
 go_enter func191,ntmps191;go_wp2_with fail
 all_goals
  go_ret;refine⟨aj ?_,rfl⟩;simp_all [Np.Aw]<;>(intros;omega)
theorem aIX(s z:ByteArray)(hs:s.size<=140737488355328)(hz:z.size<=140737488355328)(w:World) :
 Calls prog 129 #[.string s,.string z] w λe w'=>e = .returned (.bool (Np.Aw s z))/\w'=w:=by
 go_enter func129,ntmps129;go_wp2_with (go_at_call 191;refine (aIY s z hs hz _).mono ?_;rintro e w' ⟨rfl,rfl⟩);go_ret;exact⟨rfl,rfl⟩
theorem vJ(s z:ByteArray)(hs:s.size<=140737488355328)(hz:z.size<=140737488355328)(w:World)(v1:Np.ai s.data.toList=true)(v2:Np.ai z.data.toList=true) :
 Calls prog 61 #[.string s,.string z] w (aCX w.heap.size w (.tuple #[.bool (Np.aW s.data.toList z.data.toList),.int .i64 0])):=by
 rw[<-Mp];have V1:=jq v1;have V2:=jq v2;clear v1 v2;go_enter func61,ntmps61;go_wp2_with (first
  | (go_at_call 118;have v1:=V1.out;clear V1;refine (valid_any s hs _).mono ?_;rintro e w1 ⟨rfl,hb⟩;rw[v1];clear v1;have ay:=jq hb;clear hb)
  | (go_at_call 118;have v2:=V2.out;clear V2;refine (valid_any z hz _).mono ?_;rintro e w2 ⟨rfl,hb⟩;rw[v2];clear v2;have am:=jq hb;clear hb)
  | (go_at_call 129;refine (aIX s z hs hz _).mono ?_;rintro e w3 ⟨rfl,rfl⟩))
 all_goals
  go_ret2;refine⟨brK ?_,ay.out.trans (am.out.mono ay.out.size)⟩;simp_all [Np.under,dQ]
 ·rename_i _ h1 h2 h3 _;have e1:(s.data == z.data)=false:=by simpa using h1
  have e2:(z.data.toList == [46])=false:=by simpa using h2
  have e3:s.data[s.size - z.size - 1]?=some s[s.size - z.size - 1]:=pQ (by simp;omega);rw[e1,e2,e3,Bool.eq_iff_iff];simp;omega
 ·intros;omega
theorem Vc(s z:ByteArray)(hs:s.size<=140737488355328)(w:World)(v1:Np.ai s.data.toList=false) :
 Calls prog 61 #[.string s,.string z] w (aCX w.heap.size w (.tuple #[.bool false,.int .i64 11])):=by
 have V1:=jq v1;clear v1;go_enter func61,ntmps61;go_wp2_with fail;refine (valid_any s hs _).mono ?_;rintro e w1 ⟨rfl,hb⟩;rw[V1.out];have ay:=jq hb;clear hb;go_wp2_with fail;go_ret2;exact⟨rfl,ay.out⟩
theorem VC(s1 s2:ByteArray)(cJ:s1.size<=140737488355328)(ga:s2.size<=140737488355328)(t1 t2:Int)(n1:Np.ai s1.data.toList=true)(n2:Np.ai s2.data.toList=true)(w:World) :
 Calls prog 205 #[.string s1,.int .i64 t1,.string s2,.int .i64 t2] w
  λe w'=>e = .returned (.int .i64 (Np.fF (s1.data.toList,t1) (s2.data.toList,t2)))/\Below w.heap.size w w':=by
 have hv:o8 s1.data.toList s2.data.toList = .tuple #[.int .i64 (Np.br s1.data.toList s2.data.toList),.int .i64 0]:=by rw[o8,n1,n2];rfl
 have HV:=jq hv;clear hv n1 n2;by_cases h:s1.data.toList=s2.data.toList
 ·have he:(!s1.toList == s2.toList)=false:=by rw[dQ,dQ,h];simp
  have hc:Np.fF (s1.data.toList,t1) (s2.data.toList,t2)=Np.eD t1 t2:=by unfold Np.fF;dsimp only;rw[h,Np.B7,Qc (by simp)]
  rw[hc];clear hc h;go_enter func205,ntmps205;go_wp2_with (go_at_call 153;refine (JB _ _ _).mono ?_;rintro e w' ⟨rfl,rfl⟩);go_ret;exact⟨rfl,vQ _ _⟩
 ·have he:(!s1.toList == s2.toList)=true:=by rw[dQ,dQ];simpa using h
  have hc:Np.fF (s1.data.toList,t1) (s2.data.toList,t2)=Np.br s1.data.toList s2.data.toList:=by unfold Np.fF;dsimp only;rw[QbQ (λe=>h (Np.E9 e))]
  rw[hc];clear hc h;go_enter func205,ntmps205;go_wp2_with fail;refine (compare_any s1 s2 cJ ga _).mono ?_;rintro e w1 ⟨rfl,hb⟩;rw[HV.out];have HB:=jq hb;clear hb;go_wp2_with fail;go_ret;exact⟨rfl,HB.out⟩
theorem AB{s:Np.DSet}(h:Np.bi s=true):Np.ai s.name=true:=by
 unfold Np.bi at h;simp only[Bool.and_eq_true] at h;exact h.1.1.1.1.1.1
end
section
open Go.ChangeShapes Go.WideShapes Go.ChangeAt Go.RowKit
theorem QN:prog.globalNamed "nameplan/record.rules" = some 0:=by kernel_rfl
theorem aBZ:(prog.globals[0]?).map (·.type)=some 132:=by kernel_rfl
theorem amZ:prog.cellsOf 131=8:=by kernel_rfl
theorem nr:prog.cellsOf 3=1:=by kernel_rfl
theorem JA:prog.cellsOf 4=1:=by kernel_rfl
def pa:Value->DataW Unit
 | .int k n=>.lit (.int k n)
 | .bool b=>.lit (.bool b)
 | _=>.nil
theorem a9X:(Rows.laid_nameplan_record_rules:DataW Unit) = .agg ((List.range 9).map λ(k:Nat)=>.agg ((jr (Np.du k)).toList.map pa)):=by
 rfl
section
variable {w:World} {base:Nat} {spare:Nat->Bool} {held:Bool} {fuel:Nat} {cs:List Value} {p:List MemPlace}
theorem DB{n:Int}(h:DataW.trod (λ_=>()) prog w base spare held fuel 3 cs=some (pa (.int .i64 n),p)):cs = [.int .i64 n]:=by
 obtain⟨m,rfl,hx,_⟩:=DataW.trod_int underlying3 h;simp only[pa,Prod.mk.injEq,DataW.lit.injEq,Lit.int.injEq] at hx;rw[hx.1.2]
theorem LQ{b:Bool}(h:DataW.trod (λ_=>()) prog w base spare held fuel 4 cs=some (pa (.bool b),p)):cs = [.bool b]:=by
 obtain⟨m,rfl,hx⟩:=DataW.trod_bool underlying4 h;simp only[pa,Prod.mk.injEq,DataW.lit.injEq,Lit.bool.injEq] at hx;rw[hx.1]
theorem uK{cs:List Value}{o:Nat}{v:Value}(h:(cs.drop o).take 1 = [v]):cs[o]?=some v:=by
 have:=Qd (·[0]?) h
 simpa [List.getElem?_take,List.getElem?_drop] using this
theorem UE{r:Np.Rule}(h:DataW.trod (λ_=>()) prog w base spare held fuel 131 cs=some (.agg ((jr r).toList.map pa),p)):∀ (j:Nat) (v:Value),(jr r).toList[j]?=some v->cs[j]?=some v:=by
 obtain⟨ys,n,_,hx,_,hlen,hf⟩:=DataW.trod_struct underlying131 h;simp only[Prod.mk.injEq,DataW.agg.injEq] at hx;have hy:∀ (j:Nat) (v:Value),(jr r).toList[j]?=some v->∃ q,ys[j]?=some (pa v,q):=λj v hj=>by
  have h1:(ys.map (·.1))[j]?=some (pa v):=by rw[<-hx.1];simp[hj]
  simp only[List.getElem?_map,Option.map_eq_some_iff] at h1;obtain⟨y,Aa,Ab⟩:=h1;exact⟨y.2,by rw[Aa,<-Ab]⟩
 intro j v hj;obtain⟨q,hq⟩:=hy j v hj
 match j,hj,hq with
 | 0,hj,hq=>simp[jr] at hj;subst hj;have:DataW.trod (λ_=>()) prog w base spare held n 3 ((cs.drop 0).take (prog.cellsOf 3))=ys[0]?:=hf 0 _ rfl;rw[hq,nr] at this;exact uK (DB this)
 | 1,hj,hq=>simp[jr] at hj;subst hj;have:DataW.trod (λ_=>()) prog w base spare held n 3 ((cs.drop 1).take (prog.cellsOf 3))=ys[1]?:=hf 1 _ rfl;rw[hq,nr] at this;exact uK (DB this)
 | 2,hj,hq=>simp[jr] at hj;subst hj;have:DataW.trod (λ_=>()) prog w base spare held n 3 ((cs.drop 2).take (prog.cellsOf 3))=ys[2]?:=hf 2 _ rfl;rw[hq,nr] at this;exact uK (DB this)
 | 3,hj,hq=>simp[jr] at hj;subst hj;have:DataW.trod (λ_=>()) prog w base spare held n 3 ((cs.drop 3).take (prog.cellsOf 3))=ys[3]?:=hf 3 _ rfl;rw[hq,nr] at this;exact uK (DB this)
 | 4,hj,hq=>simp[jr] at hj;subst hj;have:DataW.trod (λ_=>()) prog w base spare held n 3 ((cs.drop 4).take (prog.cellsOf 3))=ys[4]?:=hf 4 _ rfl;rw[hq,nr] at this;exact uK (DB this)
 | 5,hj,hq=>simp[jr] at hj;subst hj;have:DataW.trod (λ_=>()) prog w base spare held n 4 ((cs.drop 5).take (prog.cellsOf 4))=ys[5]?:=hf 5 _ rfl;rw[hq,JA] at this;exact uK (LQ this)
 | 6,hj,hq=>simp[jr] at hj;subst hj;have:DataW.trod (λ_=>()) prog w base spare held n 4 ((cs.drop 6).take (prog.cellsOf 4))=ys[6]?:=hf 6 _ rfl;rw[hq,JA] at this;exact uK (LQ this)
 | 7,hj,hq=>simp[jr] at hj;subst hj;have:DataW.trod (λ_=>()) prog w base spare held n 4 ((cs.drop 7).take (prog.cellsOf 4))=ys[7]?:=hf 7 _ rfl;rw[hq,JA] at this;exact uK (LQ this)
 | j+8,hj,_=>simp[jr] at hj
end
theorem bvJ{W:World}{rest:List (String×DataW Unit)}(h:laidMet prog (("nameplan/record.rules",Rows.laid_nameplan_record_rules)::rest) W):cr W W.heap.size:=by
 obtain⟨ps,⟨g',t',cs,fuel,p,q,hg',ht',aZJ,hd,_,_⟩,_⟩:=h;obtain rfl:=Option.some.inj (QN.symm.trans hg');obtain rfl:=Option.some.inj (aBZ.symm.trans ht');rw[a9X] at hd;obtain⟨xs,m,_,hx,_,hlen,hf⟩:=DataW.trod_array underlying132 hd;simp only[Prod.mk.injEq,DataW.agg.injEq] at hx;have hcell:∀ (i:Nat) (v:Value),cs[i]?=some v->W.cell? ⟨0,i,none⟩=some v:=λi v hi=>by rw[World.var?_cell QN aZJ i];exact hi
 refine⟨?_,λk hk j v hj=>?_⟩
 ·have h0:=hf 0 (by omega);obtain⟨x0,gK⟩:∃ x,xs[0]?=some x:=⟨_,aQ (by omega)⟩;rw[gK] at h0;have h1:x0.1 = .agg ((jr (Np.du (0:Nat))).toList.map pa):=by
   have:(xs.map (·.1))[0]?=some (.agg ((jr (Np.du (0:Nat))).toList.map pa)):=by rw[<-hx.1];rfl
   rw[List.getElem?_map,gK] at this;simpa using this
  rw[show x0=(x0.1,x0.2) from rfl,h1] at h0;have h2:=UE h0 0 _ rfl;simp only[Nat.zero_mul,List.drop_zero,List.getElem?_take] at h2;split at h2
  ·exact World.block_lt_of_cell? _ _ (hcell 0 _ (by simpa using h2))
  ·cases h2
 ·have h0:=hf k hk;obtain⟨x0,gK⟩:∃ x,xs[k]?=some x:=⟨_,aQ (by omega)⟩;rw[gK] at h0;have h1:x0.1 = .agg ((jr (Np.du k)).toList.map pa):=by
   have:(xs.map (·.1))[k]?=some (.agg ((jr (Np.du k)).toList.map pa)):=by rw[<-hx.1,List.getElem?_map,List.getElem?_range hk];rfl
   rw[List.getElem?_map,gK] at this;simpa using this
  rw[show x0=(x0.1,x0.2) from rfl,h1] at h0;have h2:=UE h0 j v hj;rw[amZ,List.getElem?_take] at h2;split at h2
  ·rw[List.getElem?_drop] at h2;exact hcell _ _ (by simpa using h2)
  ·cases h2
end
end Go.Proofs.YtadhigmjilijcaaGreatDoor
namespace Go.Proofs
open YtadhigmjilijcaaGreatDoor Tryz
open Go.Shelf
end Go.Proofs
namespace Go.Proofs.YtadhigmjilijcaaGreatDoor
open Go.Proofs.Tryz
namespace Np
def Stop(y:List UInt8):Prop:=y = []\/∃ c r,y=c::r/\vC c=false
def Lx(x:List UInt8)(ts:List Tok)(free:Bool):Prop:=
 ∀ (y:List UInt8) (p k:Nat),(free=true\/Stop y)->k<=2000->
   (k+ts.length<=2000->∃ ts',ts'.map Fb=ts.map Fb/\pB (x++y) p k=(ts'++(pB y (p+x.length) (k+ts.length)).1,(pB y (p+x.length) (k+ts.length)).2))/\
   (2000<k+ts.length->(pB (x++y) p k).2.1=2)
theorem Lx.weaken{x:List UInt8}{ts:List Tok}{f:Bool}(h:Lx x ts f):Lx x ts false:=λy p k hy hk=>
 h y p k (.inr (by rcases hy with hy | hy;cases hy;exact hy)) hk
theorem beJ:∀ (s:List UInt8) (c:UInt8),c∈s->c=46\/∃ x∈be s,c∈x:=by
 intro s
 induction s with
 | nil=>intro c h;cases h
 | cons a r ih=>
  intro c hc;rw[be];by_cases ha:a=46
  ·rw[QbQ ha];rcases List.mem_cons.1 hc with e | e
   ·exact .inl (e.trans ha)
   ·rcases ih c e with h | ⟨x,hx,FP⟩
    ·exact .inl h
    ·exact .inr ⟨x,mQ _ hx,FP⟩
  ·rw[Qc ha];have hne:=oM r
   cases hr:be r with
   | nil=>exact absurd hr hne
   | cons y ys=>
    rw[hr] at ih;rcases List.mem_cons.1 hc with e | e
    ·exact .inr ⟨a::y,by simp,by simp[e]⟩
    ·rcases ih c e with h | ⟨x,hx,FP⟩
     ·exact .inl h
     ·rcases List.mem_cons.1 hx with rfl | hx
      ·exact .inr ⟨a::x,by simp,by simp[FP]⟩
      ·exact .inr ⟨x,by simp[hx],FP⟩
theorem a9Q{c:UInt8}(h:nR c=true):vC c=true:=by
 unfold nR at h;have hl:∀ c:UInt8,sw c=true\/qW c=true->cls c=3:=by
  intro c h;have hne:¬ (c=32\/c=9\/c=10)/\c≠35:=by
   constructor
   ·rintro (rfl | rfl | rfl)<;>revert h<;>decide
   ·rintro rfl;revert h;decide
  unfold cls;rw[Qc hne.1,Qc hne.2,QbQ (by rcases h with h | h<;>simp[h])]
 simp only[Bool.or_eq_true,beq_iff_eq] at h;unfold vC;rcases h with h | h
 ·rw[hl c h];rfl
 ·subst h;decide
theorem bcK{c:UInt8}(h:sw c=true\/qW c=true):cls c=3:=by
 have hne:¬ (c=32\/c=9\/c=10)/\c≠35:=by
  constructor
  ·rintro (rfl | rfl | rfl)<;>revert h<;>decide
  ·rintro rfl;revert h;decide
 unfold cls;rw[Qc hne.1,Qc hne.2,QbQ (by rcases h with h | h<;>simp[h])]
theorem a9Z{x:List UInt8}(h:cD x=true\/x = [42]):∀ c∈x,vC c=true:=by
 rcases h with h | rfl
 ·unfold cD at h;simp only[Bool.and_eq_true] at h;exact λc hc=>a9Q (List.all_eq_true.1 h.2 c hc)
 ·intro c hc;simp at hc;subst hc;decide
theorem a9J{x:List UInt8}(h:cD x=true\/x = [42]):∃ c r,x=c::r/\cls c=3:=by
 rcases h with h | rfl
 ·unfold cD at h;simp only[Bool.and_eq_true,Qa,Bool.not_eq_true',beq_eq_false_iff_ne] at h
  cases x with
  | nil=>simp at h
  | cons c r=>
   refine⟨c,r,rfl,bcK ?_⟩;have h1:=List.all_eq_true.1 h.2 c (by simp);have h2:=h.1.1.2;simp only[List.head?_cons,ne_eq,Option.some.injEq] at h2;simp only[nR,Bool.or_eq_true,beq_iff_eq] at h1;rcases h1 with h1 | h1
   ·exact h1
   ·exact absurd h1 h2
 ·exact⟨42,[],rfl,by decide⟩
theorem Mh:∀ (s:List UInt8),∃ h t,be s=h::t/\(∀ c r,h=c::r->∃ r',s=c::r'):=by
 intro s
 cases s with
 | nil=>exact⟨[],[],rfl,λc r h=>by cases h⟩
 | cons a r=>
  rw[be];by_cases ha:a=46
  ·rw[QbQ ha];exact⟨[],_,rfl,λc r h=>by cases h⟩
  ·rw[Qc ha];have hne:=oM r
   cases hr:be r with
   | nil=>exact absurd hr hne
   | cons x xs=>exact⟨a::x,xs,rfl,λc r' h=>by cases h;exact⟨_,rfl⟩⟩
theorem T1{s:List UInt8}(h:ai s=true):s.length<=60/\(s = [46]\/∃ c r,s=c::r/\cls c=3/\s.all vC=true):=by
 unfold ai at h;split at h
 ·rename_i e;subst e;exact⟨by decide,.inl rfl⟩
 ·split at h
  ·cases h
  ·rename_i qh;have hg:=QS _ _ _ h;have hl:∀ x∈be s,cD x=true\/x = [42]:=λx hx=>(hg x (List.mem_reverse.2 hx)).symm;obtain⟨a,t,e1,e2⟩:=Mh s;obtain⟨c,r,rfl,hc⟩:=a9J (hl a (by rw[e1];simp));obtain⟨r',rfl⟩:=e2 c r rfl;refine⟨by omega,.inr ⟨c,r',rfl,hc,List.all_eq_true.2 λb hb=>?_⟩⟩;rcases beJ _ b hb with rfl | ⟨x,hx,eG⟩
   ·decide
   ·exact a9Z (hl x hx) b eG
end Np
section
theorem bIZ{k:Int}{l:List UInt8}(h:Np.DW k l=true):l.length<=60:=by
 unfold Np.DW at h;split at h
 ·simp only[Bool.and_eq_true] at h;exact (Np.T1 h.1).1
 ·split at h
  ·exact (Np.T1 h).1
  ·split at h
   ·unfold Np.mi at h;simp only[Bool.and_eq_true,Qa] at h;omega
   ·have:l = []:=by simpa using h
    rw[this];simp
end
section
open Go.RowKit
section
variable {P:Program} {ops:Array Oper} {md:Region.Mode} {C:World->Prop}
end
section
variable {P:Program} {ops:Array Oper} {md:Region.Mode} {C:World->Prop} {Q:Exit->Act->World->Prop}
theorem L0(a:Act)(d:Nat)(v:Value)(h:d<a.tmps.size):(a.put (some d) v).eval (.tmp d)=v:=by
 simp[Act.put,Act.eval,h]
theorem DD(a:Act)(d j:Nat)(v:Value)(h:d≠j):(a.put (some d) v).eval (.tmp j)=a.eval (.tmp j):=by
 simp[Act.put,Act.eval,h,Array.getD_eq_getD_getElem?]
structure ly(ops:Array Oper)(D:List Nat)(dst:Nat->Nat)(val:Nat->Value)(base:List (Nat×Value))(m:Nat)(ds:List Deferred)(f:Nat)(listed:Array Bool)(a:Act):Prop where
 defs:a.defers=ds
 size:listed.size=ops.size
 left:listed.toList.count false=f
 not:∀ i,i<ops.size->i∉D->listed.getD i true=false
 val:∀ i∈D,listed.getD i false=true->a.eval (.tmp (dst i))=val i
 base:∀ q∈base,a.eval (.tmp q.1)=q.2
 tmps:a.tmps.size=m
theorem ly.step{ds:List Deferred}{D:List Nat}{dst:Nat->Nat}{val:Nat->Value}{base:List (Nat×Value)}{m f:Nat}{listed:Array Bool}{a:Act}{i:Nat}{o:Oper}(hg:ly ops D dst val base m ds (f+1) listed a)(hi:i∈D)(hr:listed.getD i true=false)(ho:ops[i]?=some o)(hd:o.dst=some (dst i))(ag:dst i<m)
 (tE:∀ j∈D,j≠i->dst i≠dst j) (hb:∀ q∈base,dst i≠q.1) (hy:YieldsIn P ops C o (val i) a):qOp P ops C i (ly ops D dst val base m ds f (listed.setIfInBounds i true)) a:=by
 refine hy.qOp ho ?_;rw[hd];have aPJ:i<ops.size:=(eQ.1 ho).1;have gH:i<listed.size:=by rw[hg.size];exact aPJ
 have aF:listed[i]=false:=by simpa [Array.getD,gH] using hr
 refine⟨by simp[Act.put,hg.defs],by simp[hg.size],?_,?_,?_,?_,?_⟩
 ·have h1:=hg.left;rw[Array.toList_setIfInBounds,List.count_set (by simpa using gH)];simp[aF,h1]
 ·intro j hj kg;have hne:i≠j:=λe=>kg (e ▸ hi)
  have:=hg.not j hj kg
  simpa [Array.getD,hg.size,hj,Array.getElem_setIfInBounds,hne] using this
 ·intro j hj hl;by_cases hne:i=j
  ·subst hne;exact L0 a _ _ (by rw[hg.tmps];exact ag)
  ·rw[DD _ _ _ _ (tE j hj (λe=>hne e.symm))];refine hg.val j hj ?_;by_cases rT:j<listed.size
   ·simpa [Array.getD,rT,Array.getElem_setIfInBounds,hne] using hl
   ·simp[Array.getD,rT] at hl
 ·intro q hq;rw[DD _ _ _ _ (hb q hq)];exact hg.base q hq
 ·simp[Act.put,hg.tmps]
theorem ly.none{ds:List Deferred}{D:List Nat}{dst:Nat->Nat}{val:Nat->Value}{base:List (Nat×Value)}{m:Nat}{listed:Array Bool}{a:Act}{p:Nat}(hp:p<ops.size)(lh:p∉D):¬ ly ops D dst val base m ds 0 listed a:=λhg=>by
 have h1:=hg.not p hp lh;have gH:p<listed.size:=by rw[hg.size];exact hp
 have aF:listed[p]=false:=by simpa [Array.getD,gH] using h1
 have h2:=hg.left;rw[List.count_eq_zero] at h2;exact h2 (by rw[<-aF];simp)
theorem ly.start{D:List Nat}{dst:Nat->Nat}{val:Nat->Value}{base:List (Nat×Value)}{m:Nat}{a:Act}(hb:∀ q∈base,a.eval (.tmp q.1)=q.2)(hm:a.tmps.size=m):ly ops D dst val base m a.defers ops.size (Array.replicate ops.size false) a:=
 ⟨rfl,by simp,by simp,λi hi _=>by simp[Array.getD,hi],λi _ h=>by simp[Array.getD] at h,hb,hm⟩
theorem bnZ{listed:Array Bool}(hw:∀ (i:Nat) (o:Oper),ops[i]?=some o->∀ e∈o.after,e.on<i)(aB:listed.size=ops.size):∀ p,p<ops.size->listed.getD p true=false->Region.ready md ops listed≠[]:=by
 intro p
 induction p using Nat.strongRecOn with
 | _ p ih=>
  intro hp hl;by_cases cK:∀ e∈(ops[p]).after,Region.binds md e=true->listed.getD e.on false=true
  ·intro h0
   have:p∈Region.ready md ops listed:=mem_ready.2 ⟨hl,ops[p],pQ hp,cK⟩
   rw[h0] at this
   cases this
  ·simp only[Classical.not_forall] at cK;obtain⟨e,he,hb,hne⟩:=cK;have ag:=hw p _ (pQ hp) e he;refine ih e.on ag (by omega) ?_;have h1:e.on<listed.size:=by omega
   simpa [Array.getD,h1] using hne
def Mz(ops:Array Oper):Bool:=(List.range ops.size).all λi=>match ops[i]? with
 | some o=>o.after.all λe=>decide (e.on<i)
 | none=>true
def My(ops:Array Oper)(D:List Nat)(p:Nat):Bool:=(List.range ops.size).all λi=>D.contains i||i == p||match ops[i]? with
 | some o=>o.after.any λe=>Region.binds .any e&&!D.contains e.on&&decide (e.on<ops.size)
 | none=>true
theorem bMJ(h:Mz ops=true):∀ (i:Nat) (o:Oper),ops[i]?=some o->∀ e∈o.after,e.on<i:=by
 intro i o ho e he;unfold Mz at h;rw[List.all_eq_true] at h;have h1:=h i (by rw[List.mem_range];exact (eQ.1 ho).1);rw[ho] at h1;simp only[Array.all_eq_true_iff_forall_mem,Qa] at h1;exact h1 e he
theorem bLZ{D:List Nat}{p:Nat}(h:My ops D p=true):∀ (i:Nat) (o:Oper),ops[i]?=some o->i∉D->i≠p->∃ e∈o.after,Region.binds .any e=true/\e.on∉D/\e.on<ops.size:=by
 intro i o ho hD hp;unfold My at h;rw[List.all_eq_true] at h;have h1:=h i (by rw[List.mem_range];exact (eQ.1 ho).1);rw[ho] at h1;simp only[Bool.or_eq_true,List.contains_iff_mem,hD,beq_iff_eq,hp,false_or] at h1;rw[Array.any_eq_true'] at h1;obtain⟨e,he,h2⟩:=h1;simp only[Bool.and_eq_true,Bool.not_eq_true',Qa] at h2;have h3:e.on∉D:=λhm=>by
  have:=h2.1.2
  rw[List.contains_iff_mem.2 hm] at this
  cases this
 exact⟨e,he,h2.1.1,h3,h2.2⟩
end
section
variable {P:Program} {ops:Array Oper} {Q:Exit->Act->World->Prop}
structure Held(ops:Array Oper)(D A:List Nat)(dst:Nat->Nat)(val:Nat->Value)(base:List (Nat×Value))(m:Nat)(ds:List Deferred)(f:Nat)(listed:Array Bool)(a:Act):Prop where
 good:ly ops D dst val base m ds f listed a
 done:∀ i∈A,listed.getD i false=true
 clo:∀ j o,ops[j]?=some o->listed.getD j false=true->∀ e∈o.after,Region.binds .any e=true->listed.getD e.on false=true
theorem GC{listed:Array Bool}{i j:Nat}(h:(listed.setIfInBounds i true).getD j false=true):j=i\/listed.getD j false=true:=by
 by_cases jD:i=j
 ·exact .inl jD.symm
 ·rw[getD_set_ne false jD] at h;exact .inr h
theorem vE{listed:Array Bool}{i j:Nat}(h:listed.getD j false=true):(listed.setIfInBounds i true).getD j false=true:=by
 by_cases jD:i=j
 ·subst jD;have hl:i<listed.size:=by
   by_cases hl:i<listed.size
   ·exact hl
   ·simp[Array.getD,hl] at h
  simp[Array.getD,hl]
 ·rw[getD_set_ne false jD];exact h
theorem B5{listed:Array Bool}{i:Nat}(hr:i∈Region.ready .any ops listed)(h:∀ j o,ops[j]?=some o->listed.getD j false=true->∀ e∈o.after,Region.binds .any e=true->listed.getD e.on false=true) :
 ∀ j o,ops[j]?=some o->(listed.setIfInBounds i true).getD j false=true->∀ e∈o.after,Region.binds .any e=true->(listed.setIfInBounds i true).getD e.on false=true:=λj o ho hj e he hb=>by
 refine vE ?_;rcases GC hj with rfl | hj
 ·obtain⟨_,o',ho',cK⟩:=mem_ready.1 hr;rw[ho] at ho';cases ho';exact cK e he hb
 ·exact h j o ho hj e he hb
theorem Held.act{D A D':List Nat}{dst:Nat->Nat}{val val':Nat->Value}{base:List (Nat×Value)}{m p f:Nat}{ds:List Deferred}{listed:Array Bool}{a:Act}{v:Value}(h:Held ops D A dst val base m ds (f+1) listed a)(hp:p∈Region.ready .any ops listed)
 (lh:p∉D) (hD:∀ i,i∉D'->i∉D/\i≠p) (hval:∀ i∈D,val' i=val i) (Lm:val' p=v) (ag:dst p<m) (tE:∀ j∈D,dst p≠dst j) (hb:∀ q∈base,dst p≠q.1) (ej:p<ops.size) :
 Held ops D' (p::A) dst val' base m ds f (listed.setIfInBounds p true) (a.put (some (dst p)) v):=by
 have hg:=h.good;have fL:=(mem_ready.1 hp).1;have gH:p<listed.size:=by rw[hg.size];exact ej
 have aF:listed[p]=false:=by simpa [Array.getD,gH] using fL
 refine⟨⟨by simp[Act.put,hg.defs],by simp[hg.size],?_,?_,?_,?_,by simp[Act.put,hg.tmps]⟩,?_,B5 hp h.clo⟩
 ·have h1:=hg.left;rw[Array.toList_setIfInBounds,List.count_set (by simpa using gH)];simp[aF,h1]
 ·intro j hj kg;obtain⟨h1,h2⟩:=hD j kg
  have:=hg.not j hj h1
  rw[getD_set_ne true (λe=>h2 e.symm)];exact this
 ·intro j hj hl;rcases GC hl with rfl | hl
  ·rw[Lm];exact L0 a _ _ (by rw[hg.tmps];exact ag)
  ·have kg:j∈D:=Decidable.byContradiction λkg=>by
    by_cases xG:j<ops.size
    ·have h1:=hg.not j xG kg;have h3:j<listed.size:=by rw[hg.size];exact xG
     simp[Array.getD,h3] at h1 hl;rw[h1] at hl;cases hl
    ·have h3:¬ j<listed.size:=by rw[hg.size];exact xG
     simp[Array.getD,h3] at hl
   rw[DD _ _ _ _ (tE j kg),hval j kg];exact hg.val j kg hl
 ·intro q hq;rw[DD _ _ _ _ (hb q hq)];exact hg.base q hq
 ·intro i hi;rcases List.mem_cons.1 hi with rfl | hi
  ·simp[Array.getD,gH]
  ·exact vE (h.done i hi)
def Gx(ops:Array Oper)(p:Nat):Bool:=(List.range ops.size).all λi=>i == p||(List.range ops.size).any λj=>decide (i<j)&&match ops[j]? with
 | some o=>o.after.any λe=>Region.binds .any e&&e.on == i
 | none=>false
theorem Held.all{D A:List Nat}{dst:Nat->Nat}{val:Nat->Value}{base:List (Nat×Value)}{m p f:Nat}{ds:List Deferred}{listed:Array Bool}{a:Act}(h:Held ops D A dst val base m ds (f+1) listed a)(hp:p∈Region.ready .any ops listed)(hl:Gx ops p=true) :
 f=0/\∀ i,i<ops.size->i≠p->listed.getD i false=true:=by
 unfold Gx at hl;rw[List.all_eq_true] at hl;have key:∀ k i,ops.size - i=k->i<ops.size->i≠p->listed.getD i false=true:=by
  intro k
  induction k using Nat.strongRecOn with
  | ind k ih=>
   intro i hk his hip;have h1:=hl i (by rw[List.mem_range];exact his);simp only[Bool.or_eq_true,beq_iff_eq,hip,false_or,List.any_eq_true,List.mem_range,Bool.and_eq_true,Qa] at h1;obtain⟨j,hj,jD,h2⟩:=h1;rw[pQ hj] at h2;simp only[Array.any_eq_true',Bool.and_eq_true,beq_iff_eq] at h2;obtain⟨e,he,hb,rfl⟩:=h2;by_cases CQ:j=p
   ·subst CQ;obtain⟨_,o,ho,cK⟩:=mem_ready.1 hp;rw[pQ hj] at ho
    cases ho
    exact cK e he hb
   ·exact h.clo j _ (pQ hj) (ih (ops.size - j) (by omega) j rfl hj CQ) e he hb
 have ej:p<ops.size:=by
  obtain⟨_,o,ho,_⟩:=mem_ready.1 hp;exact (eQ.1 ho).1
 refine⟨?_,λi hi hne=>key _ i rfl hi hne⟩;have aB:=h.good.size;have b5J:=h.good.left;have hc:listed.toList.count false<=1:=by
  have il:p<listed.toList.length:=by simp[aB,ej]
  have cK:∀ j (hj:j<listed.toList.length),j≠p->listed.toList[j]=true:=λj hj hne=>by
   have hj':j<listed.size:=by simpa using hj
   have:=key _ j rfl (by rw[<-aB];exact hj') hne
   simpa [Array.getD,hj'] using this
  have e:listed.toList=listed.toList.take p++listed.toList[p]::listed.toList.drop (p+1):=by
   rw[<-sQ il,List.take_append_drop]
  rw[e,List.count_append,List.count_cons];have c1:(listed.toList.take p).count false=0:=List.count_eq_zero.2 λhm=>by
   obtain⟨j,hj,xF⟩:=nQ.1 hm;rw[List.getElem_take] at xF;rw[List.length_take] at hj;rw[cK j (by omega) (by omega)] at xF
   cases xF
  have c2:(listed.toList.drop (p+1)).count false=0:=List.count_eq_zero.2 λhm=>by
   obtain⟨j,hj,xF⟩:=nQ.1 hm;rw[List.getElem_drop] at xF;rw[List.length_drop] at hj;rw[cK _ (by omega) (by omega)] at xF
   cases xF
  rw[c1,c2];split<;>omega
 omega
theorem Held.start{D:List Nat}{dst:Nat->Nat}{val:Nat->Value}{base:List (Nat×Value)}{m:Nat}{a:Act}(hb:∀ q∈base,a.eval (.tmp q.1)=q.2)(hm:a.tmps.size=m):Held ops D [] dst val base m a.defers ops.size (Array.replicate ops.size false) a:=
 ⟨ly.start hb hm,(λ_ h=>by cases h),λj o ho hj=>by simp[Array.getD] at hj⟩
end
end
section
open Go.RowKit
theorem bnQ{md:Region.Mode}{ops:Array Oper}{listed:Array Bool}(h:∀ i,i<ops.size->listed.getD i false=true)(hs:listed.size=ops.size):Region.ready md ops listed = []:=by
 apply List.eq_nil_iff_forall_not_mem.2;intro i hi;obtain⟨h1,o,ho,_⟩:=mem_ready.1 hi;have ag:=(eQ.1 ho).1;have h2:=h i ag;have h3:i<listed.size:=by rw[hs];exact ag
 simp[Array.getD,h3] at h1 h2;rw[h1] at h2;cases h2
def kq(a:Act):List (Nat×Value)->Act
 | []=>a
 | q::l=>kq (a.put (some q.1) q.2) l
theorem ahJ{a b:Act}(hs:a.tmps.size=b.tmps.size)(hd:a.defers=b.defers)(h:∀ j,a.eval (.tmp j)=b.eval (.tmp j)):a=b:=by
 obtain⟨t,d⟩:=a;obtain⟨t',d'⟩:=b;simp only at hs hd;subst hd;congr 1;apply Array.ext hs;intro i h1 h2
 have:=h i
 simpa [Act.eval,Array.getD_eq_getD_getElem?,h1,h2] using this
theorem bkX{a a0:Act}(hs:a.tmps.size=a0.tmps.size)(hd:a.defers=a0.defers):∀ (l:List (Nat×Value)),(∀ q∈l,q.1<a0.tmps.size)->(∀ q∈l,a.eval (.tmp q.1)=q.2)->(∀ j,(∀ q∈l,q.1≠j)->a.eval (.tmp j)=a0.eval (.tmp j))->a=kq a0 l:=by
 intro l
 induction l generalizing a0 with
 | nil=>intro _ _ h;exact ahJ hs hd (λj=>h j (λq hq=>by cases hq))
 | cons q l ih=>
  intro ag h1 h2;rw[kq];refine ih (by simpa [Act.put] using hs) (by simpa [Act.put] using hd) (λp hp=>by have:=ag p (mQ _ hp);simpa [Act.put] using this) (λp hp=>h1 p (mQ _ hp)) (λj hj=>?_);by_cases hq:q.1=j
  ·subst hq;rw[L0 _ _ _ (ag q (by simp))];exact h1 q (by simp)
  ·rw[DD _ _ _ _ hq];refine h2 j (λp hp=>?_);rcases List.mem_cons.1 hp with rfl | hp
   ·exact hq
   ·exact hj p hp
def iF(a0:Act)(m:Nat)(ds:List Nat):List (Nat×Value):=((List.range m).filter λj=>!ds.contains j).map λj=>(j,a0.eval (.tmp j))
theorem brJ{a0:Act}{m:Nat}{ds:List Nat} : ∀ q∈iF a0 m ds,a0.eval (.tmp q.1)=q.2:=λq hq=>by
 obtain⟨j,_,rfl⟩:=List.mem_map.1 hq;rfl
theorem GO{a0:Act}{m:Nat}{ds:List Nat}{d:Nat}(hd:d∈ds):∀ q∈iF a0 m ds,d≠q.1:=λq hq e=>by
 obtain⟨j,hj,rfl⟩:=List.mem_map.1 hq
 have:=(List.mem_filter.1 hj).2
 simp only at e;subst e;simp[hd] at this
theorem aM{a0 a:Act}{m:Nat}{ds:List Nat}(h:∀ q∈iF a0 m ds,a.eval (.tmp q.1)=q.2){j:Nat}(hj:j<m)(hd:j∉ds):a.eval (.tmp j)=a0.eval (.tmp j):=
 h (j,a0.eval (.tmp j)) (List.mem_map.2 ⟨j,List.mem_filter.2 ⟨List.mem_range.2 hj,by simpa using hd⟩,rfl⟩)
theorem yz{P:Program}{c:Code}{Q:Exit->Act->World->Prop}{a:Act}{w:World}(h:∀ a0,a0=a->c.wp P Q a0 w):c.wp P Q a w:=h a rfl
variable {ops:Array Oper}
theorem Held.frame{D A:List Nat}{dst:Nat->Nat}{val:Nat->Value}{m f:Nat}{listed:Array Bool}{a a0:Act}(h:Held ops D A dst val (iF a0 m (D.map dst)) m a0.defers f listed a)(hm:a0.tmps.size=m)(cK:∀ i∈D,listed.getD i false=true)(ag:∀ i∈D,dst i<m) :
 a=kq a0 (D.map λi=>(dst i,val i)):=by
 refine bkX (by rw[h.good.tmps,hm]) h.good.defs _ (λq hq=>?_) (λq hq=>?_) (λj hj=>?_)
 ·obtain⟨i,hi,rfl⟩:=List.mem_map.1 hq;rw[hm];exact ag i hi
 ·obtain⟨i,hi,rfl⟩:=List.mem_map.1 hq;exact h.good.val i hi (cK i hi)
 ·by_cases Sa:j<m
  ·refine aM h.good.base Sa (λhd=>?_);obtain⟨i,hi,rfl⟩:=List.mem_map.1 hd;exact hj _ (List.mem_map.2 ⟨i,hi,rfl⟩) rfl
  ·have h1:=h.good.tmps;simp[Act.eval,Array.getD_eq_getD_getElem?,h1,hm,Sa]
theorem adJ{a0 a:Act}{m:Nat}{ds:List Nat}(h:∀ q∈iF a0 m ds,a.eval (.tmp q.1)=q.2){j:Nat}{v:Value}(e:a0.eval (.tmp j)=v)(hj:j<m:=by decide)(hd:j∉ds:=by decide):a.eval (.tmp j)=v:=(aM h hj hd).trans e
end
namespace Np
structure Plain47(s:Signed):Prop where
 name:47∉s.set.name
 type:0<=s.set.type
 life:0<=s.set.life
 data:∀ d∈s.set.data,47∉d.text/\0<=d.n/\0<=d.m
 sigs:∀ g∈s.sigs,47∉g.zone/\0<=g.key/\0<=g.alg/\0<=g.frm/\0<=g.til/\0<=g.sum
end Np
section
open Go.RowKit
section
variable {P:Program} {ops:Array Oper} {Q:Exit->Act->World->Prop}
theorem Uk{listed:Array Bool}(hw:∀ (i:Nat) (o:Oper),ops[i]?=some o->∀ e∈o.after,Region.binds .any e=true->e.on<i)(aB:listed.size=ops.size):∀ p,p<ops.size->listed.getD p true=false->Region.ready .any ops listed≠[]:=by
 intro p
 induction p using Nat.strongRecOn with
 | _ p ih=>
  intro hp hl;by_cases cK:∀ e∈(ops[p]).after,Region.binds .any e=true->listed.getD e.on false=true
  ·intro h0
   have:p∈Region.ready .any ops listed:=mem_ready.2 ⟨hl,ops[p],pQ hp,cK⟩
   rw[h0] at this
   cases this
  ·simp only[Classical.not_forall] at cK;obtain⟨e,he,hb,hne⟩:=cK;have ag:=hw p _ (pQ hp) e he hb;refine ih e.on ag (by omega) ?_;have h1:e.on<listed.size:=by omega
   simpa [Array.getD,h1] using hne
def G0(ops:Array Oper):Bool:=(List.range ops.size).all λi=>match ops[i]? with
 | some o=>o.after.all λe=>!Region.binds .any e||decide (e.on<i)
 | none=>true
theorem Vp(h:G0 ops=true):∀ (i:Nat) (o:Oper),ops[i]?=some o->∀ e∈o.after,Region.binds .any e=true->e.on<i:=by
 intro i o ho e he hb;unfold G0 at h;rw[List.all_eq_true] at h;have h1:=h i (by rw[List.mem_range];exact (eQ.1 ho).1);rw[ho] at h1;simp only[Array.all_eq_true_iff_forall_mem,Bool.or_eq_true,Qa,Bool.not_eq_true'] at h1;exact (h1 e he).resolve_left (by rw[hb];simp)
theorem bOK{w:World}{D A:List Nat}{dst:Nat->Nat}{val:Nat->Value}{base:List (Nat×Value)}{m p:Nat}{ds:List Deferred}
 (hw:∀ (i:Nat) (o:Oper),ops[i]?=some o->∀ e∈o.after,Region.binds .any e=true->e.on<i) (hp:p<ops.size) (lh:p∉D)
 (Dq:∀ (i:Nat) (o:Oper),ops[i]?=some o->i∉D->i≠p->∃ e∈o.after,Region.binds .any e=true/\e.on∉D/\e.on<ops.size)
 (CI:∀ i∈D,i∉A->∃ o:Oper,ops[i]?=some o/\o.dst=some (dst i)) (ag:∀ i∈D,dst i<m) (tE:∀ i∈D,∀ j∈D,j≠i->dst i≠dst j) (ez:∀ i∈D,∀ q∈base,dst i≠q.1)
 (hy:∀ i∈D,i∉A->∀ o:Oper,ops[i]?=some o->∀ a:Act,(∀ q∈base,a.eval (.tmp q.1)=q.2)->(∀ e∈o.after,Region.binds .any e=true->e.on∈D->a.eval (.tmp (dst e.on))=val e.on)->YieldsIn P ops (λw'=>w'=w) o (val i) a)
 (qv:∀ f listed a,Held ops D A dst val base m ds (f+1) listed a->p∈Region.ready .any ops listed->wpOp P ops Q p (wpAny P .any ops Q f (listed.setIfInBounds p true)) a w) :
 ∀ f listed a,Held ops D A dst val base m ds f listed a->wpAny P .any ops Q f listed a w:=by
 intro f
 induction f with
 | zero=>intro listed a h;exact absurd h.good (ly.none hp lh)
 | succ f ih=>
  intro listed a h;have hg:=h.good;refine⟨λh0=>absurd h0 (Uk hw hg.size p hp (hg.not p hp lh)),λi hi=>?_⟩;obtain⟨hr,o,ho,cK⟩:=mem_ready.1 hi;by_cases hip:i=p
  ·subst hip;exact qv f listed a h hi
  ·have gu:i∈D:=Decidable.byContradiction λgu=>by
    obtain⟨e,he,qB,fI,hes⟩:=Dq i o ho gu hip;have h1:=cK e he qB;have h2:=hg.not e.on hes fI;have h3:e.on<listed.size:=by rw[hg.size];exact hes
    simp[Array.getD,h3] at h1 h2;rw[h1] at h2
    cases h2
   have aI:i∉A:=λhA=>by
    have h1:=h.done i hA;have h3:i<listed.size:=by rw[hg.size];exact (eQ.1 ho).1
    simp[Array.getD,h3] at h1 hr;rw[h1] at hr;cases hr
   obtain⟨o',ho',hd⟩:=CI i gu aI;rw[ho] at ho';cases ho';have CE:∀ e∈o.after,Region.binds .any e=true->e.on∈D->a.eval (.tmp (dst e.on))=val e.on:=λe he qB hD=>hg.val _ hD (cK e he qB);have hq:=ly.step (P:=P) hg gu hr ho hd (ag i gu) (tE i gu) (ez i gu) (hy i gu aI o ho a hg.base CE);exact wpOp_of_qOp (C:=λw'=>w'=w) rfl (λa' w' hw' h'=>by subst hw';exact ih _ a' ⟨h',λj hj=>vE (h.done j hj),B5 hi h.clo⟩) hq
def L2(ops:Array Oper)(R:List Nat)(p:Nat):Bool:=(List.range ops.size).all λi=>i == p||R.contains i||(List.range ops.size).any λj=>decide (i<j)&&!R.contains j&&match ops[j]? with
 | some o=>o.after.any λe=>Region.binds .any e&&e.on == i
 | none=>false
theorem Held.most{D A R:List Nat}{dst:Nat->Nat}{val:Nat->Value}{base:List (Nat×Value)}{m p f:Nat}{ds:List Deferred}{listed:Array Bool}{a:Act}(h:Held ops D A dst val base m ds (f+1) listed a)(hp:p∈Region.ready .any ops listed)(hl:L2 ops R p=true) :
 ∀ i,i<ops.size->i≠p->i∉R->listed.getD i false=true:=by
 unfold L2 at hl;rw[List.all_eq_true] at hl;have key:∀ k i,ops.size - i=k->i<ops.size->i≠p->i∉R->listed.getD i false=true:=by
  intro k
  induction k using Nat.strongRecOn with
  | ind k ih=>
   intro i hk his hip hiR;have h1:=hl i (by rw[List.mem_range];exact his);simp only[Bool.or_eq_true,beq_iff_eq,hip,List.contains_iff_mem,hiR,false_or,List.any_eq_true,List.mem_range,Bool.and_eq_true,Qa,Bool.not_eq_true'] at h1;obtain⟨j,hj,⟨jD,F1⟩,h2⟩:=h1;have F1:j∉R:=λe=>by rw[List.contains_iff_mem.2 e] at F1;cases F1
   rw[pQ hj] at h2;simp only[Array.any_eq_true',Bool.and_eq_true,beq_iff_eq] at h2;obtain⟨e,he,hb,rfl⟩:=h2;by_cases CQ:j=p
   ·subst CQ;obtain⟨_,o,ho,cK⟩:=mem_ready.1 hp;rw[pQ hj] at ho
    cases ho
    exact cK e he hb
   ·exact h.clo j _ (pQ hj) (ih (ops.size - j) (by omega) j rfl hj CQ F1) e he hb
 exact λi hi hne hR=>key _ i rfl hi hne hR
structure Rest(ops:Array Oper)(R D:List Nat)(dst:Nat->Nat)(val:Nat->Value)(base:List (Nat×Value))(m:Nat)(ds:List Deferred)(f:Nat)(listed:Array Bool)(a:Act):Prop where
 defs:a.defers=ds
 size:listed.size=ops.size
 left:listed.toList.count false=f
 val:∀ i∈D,listed.getD i false=true->a.eval (.tmp (dst i))=val i
 base:∀ q∈base,a.eval (.tmp q.1)=q.2
 tmps:a.tmps.size=m
 out:∀ i,i<ops.size->i∉R->listed.getD i false=true
theorem Held.rest{D A R:List Nat}{dst:Nat->Nat}{val:Nat->Value}{base:List (Nat×Value)}{m p f:Nat}{ds:List Deferred}{listed:Array Bool}{a:Act}(h:Held ops D A dst val base m ds (f+1) listed a)(hp:p∈Region.ready .any ops listed)(lh:p∉D)(hl:L2 ops R p=true) :
 Rest ops R D dst val base m ds f (listed.setIfInBounds p true) a:=by
 have hg:=h.good;obtain⟨fL,o,ho,_⟩:=mem_ready.1 hp;have ej:p<ops.size:=(eQ.1 ho).1;have gH:p<listed.size:=by rw[hg.size];exact ej
 have aF:listed[p]=false:=by simpa [Array.getD,gH] using fL
 refine⟨hg.defs,by simp[hg.size],?_,λi hi hl=>?_,hg.base,hg.tmps,λi hi hR=>?_⟩
 ·have h1:=hg.left;rw[Array.toList_setIfInBounds,List.count_set (by simpa using gH)];simp[aF,h1]
 ·rcases GC hl with rfl | hl
  ·exact absurd hi lh
  ·exact hg.val i hi hl
 ·by_cases hip:i=p
  ·subst hip;simp[Array.getD,gH]
  ·exact vE (h.most hp hl i hi hip hR)
end
section
variable {P:Program} {ops:Array Oper} {Q:Exit->Act->World->Prop}
theorem bOX{w:World}{D A T:List Nat}{dst:Nat->Nat}{val:Nat->Value}{base:List (Nat×Value)}{m p0:Nat}{ds:List Deferred}
 (hw:∀ (i:Nat) (o:Oper),ops[i]?=some o->∀ e∈o.after,e.on<i) (oB:p0<ops.size) (C8:p0∉D)
 (Dq:∀ (i:Nat) (o:Oper),ops[i]?=some o->i∉D->i∉T->∃ e∈o.after,Region.binds .any e=true/\e.on∉D/\e.on<ops.size)
 (CI:∀ i∈D,i∉A->∃ o:Oper,ops[i]?=some o/\o.dst=some (dst i)) (ag:∀ i∈D,dst i<m) (tE:∀ i∈D,∀ j∈D,j≠i->dst i≠dst j) (ez:∀ i∈D,∀ q∈base,dst i≠q.1)
 (hy:∀ i∈D,i∉A->∀ o:Oper,ops[i]?=some o->∀ a:Act,(∀ q∈base,a.eval (.tmp q.1)=q.2)->(∀ e∈o.after,Region.binds .any e=true->e.on∈D->a.eval (.tmp (dst e.on))=val e.on)->YieldsIn P ops (λw'=>w'=w) o (val i) a)
 (qv:∀ p∈T,∀ f listed a,Held ops D A dst val base m ds (f+1) listed a->p∈Region.ready .any ops listed->wpOp P ops Q p (wpAny P .any ops Q f (listed.setIfInBounds p true)) a w) :
 ∀ f listed a,Held ops D A dst val base m ds f listed a->wpAny P .any ops Q f listed a w:=by
 intro f
 induction f with
 | zero=>intro listed a h;exact absurd h.good (ly.none oB C8)
 | succ f ih=>
  intro listed a h;have hg:=h.good;refine⟨λh0=>absurd h0 (bnZ hw hg.size p0 oB (hg.not p0 oB C8)),λi hi=>?_⟩;obtain⟨hr,o,ho,cK⟩:=mem_ready.1 hi;by_cases hip:i∈T
  ·exact qv i hip f listed a h hi
  ·have gu:i∈D:=Decidable.byContradiction λgu=>by
    obtain⟨e,he,qB,fI,hes⟩:=Dq i o ho gu hip;have h1:=cK e he qB;have h2:=hg.not e.on hes fI;have h3:e.on<listed.size:=by rw[hg.size];exact hes
    simp[Array.getD,h3] at h1 h2;rw[h1] at h2
    cases h2
   have aI:i∉A:=λhA=>by
    have h1:=h.done i hA;have h3:i<listed.size:=by rw[hg.size];exact (eQ.1 ho).1
    simp[Array.getD,h3] at h1 hr;rw[h1] at hr;cases hr
   obtain⟨o',ho',hd⟩:=CI i gu aI;rw[ho] at ho';cases ho';have CE:∀ e∈o.after,Region.binds .any e=true->e.on∈D->a.eval (.tmp (dst e.on))=val e.on:=λe he qB hD=>hg.val _ hD (cK e he qB);have hq:=ly.step (P:=P) hg gu hr ho hd (ag i gu) (tE i gu) (ez i gu) (hy i gu aI o ho a hg.base CE);exact wpOp_of_qOp (C:=λw'=>w'=w) rfl (λa' w' hw' h'=>by subst hw';exact ih _ a' ⟨h',λj hj=>vE (h.done j hj),B5 hi h.clo⟩) hq
def GZ(ops:Array Oper)(D T:List Nat):Bool:=(List.range ops.size).all λi=>D.contains i||T.contains i||match ops[i]? with
 | some o=>o.after.any λe=>Region.binds .any e&&!D.contains e.on&&decide (e.on<ops.size)
 | none=>true
theorem Vk{D T:List Nat}(h:GZ ops D T=true):∀ (i:Nat) (o:Oper),ops[i]?=some o->i∉D->i∉T->∃ e∈o.after,Region.binds .any e=true/\e.on∉D/\e.on<ops.size:=by
 intro i o ho hD hp;unfold GZ at h;rw[List.all_eq_true] at h;have h1:=h i (by rw[List.mem_range];exact (eQ.1 ho).1);rw[ho] at h1;simp only[Bool.or_eq_true,List.contains_iff_mem,hD,hp,false_or] at h1;rw[Array.any_eq_true'] at h1;obtain⟨e,he,h2⟩:=h1;simp only[Bool.and_eq_true,Bool.not_eq_true',Qa] at h2;have h3:e.on∉D:=λhm=>by
  have:=h2.1.2
  rw[List.contains_iff_mem.2 hm] at this
  cases this
 exact⟨e,he,h2.1.1,h3,h2.2⟩
end
section
variable {P:Program} {ops:Array Oper} {Q:Exit->Act->World->Prop}
def stB(ops:Array Oper)(ord D A:List Nat)(p:Nat)(dst:Nat->Nat):Bool:=
 G0 ops&&My ops D p&&decide (p<ops.size)&&!D.contains p&&D.all λi=>ord.contains i&&(A.contains i||match ops[i]? with
  | some o=>o.dst == some (dst i)
  | none=>false)
def zk(ops:Array Oper)(D:List Nat)(p k:Nat):Bool:=D.contains k&&match ops[p]? with
 | some o=>o.after.any λe=>Region.binds .any e&&e.on == k
 | none=>false
theorem cM{w:World}{ord D A:List Nat}{dst:Nat->Nat}{val:Nat->Value}{a0:Act}{m:Nat}(p:Nat){dsts:List Nat}{ds:List Deferred}{f:Nat}{listed:Array Bool}{a:Act}
 (h1:∀ i∈ord,dst i<m/\dst i∈dsts) (h2:∀ i∈ord,∀ j∈ord,j≠i->dst i≠dst j)
 (h:Held ops D A dst val (iF a0 m dsts) m ds f listed a) (hB:stB ops ord D A p dst=true)
 (hy:∀ i∈D,i∉A->∀ o:Oper,ops[i]?=some o->∀ a:Act,(∀ q∈iF a0 m dsts,a.eval (.tmp q.1)=q.2)->(∀ e∈o.after,Region.binds .any e=true->e.on∈D->a.eval (.tmp (dst e.on))=val e.on)->YieldsIn P ops (λw'=>w'=w) o (val i) a)
 (qv:∀ f listed a,Held ops D A dst val (iF a0 m dsts) m ds (f+1) listed a->p∈Region.ready .any ops listed->((k:Nat)->(_:zk ops D p k=true:=by kernel_rfl)->a.eval (.tmp (dst k))=val k)->wpOp P ops Q p (wpAny P .any ops Q f (listed.setIfInBounds p true)) a w) :
 wpAny P .any ops Q f listed a w:=by
 simp only[stB,Bool.and_eq_true,Qa,Bool.not_eq_true',List.all_eq_true,List.contains_iff_mem,Bool.or_eq_true] at hB;obtain⟨⟨⟨⟨b1,b2⟩,b3⟩,b4⟩,b5⟩:=hB;have lh:p∉D:=λe=>by rw[List.contains_iff_mem.2 e] at b4;cases b4
 refine bOK (Vp b1) b3 lh (bLZ b2) (λi hi hA=>?_) (λi hi=>(h1 i (b5 i hi).1).1) (λi hi j hj=>h2 i (b5 i hi).1 j (b5 j hj).1) (λi hi=>GO (h1 i (b5 i hi).1).2) hy (λf listed a hH hr=>qv f listed a hH hr (λk hk=>?_)) f listed a h
 ·have:=(b5 i hi).2.resolve_left hA
  cases ho:ops[i]? with
  | none=>rw[ho] at this;cases this
  | some o=>rw[ho] at this;exact⟨o,rfl,by simpa using this⟩
 ·obtain⟨_,o,ho,cK⟩:=mem_ready.1 hr;simp only[zk,ho,Bool.and_eq_true,List.contains_iff_mem] at hk;obtain⟨CR,hk⟩:=hk;rw[Array.any_eq_true'] at hk;obtain⟨e,he,h3⟩:=hk;simp only[Bool.and_eq_true,beq_iff_eq] at h3;obtain⟨h4,rfl⟩:=h3;exact hH.good.val _ CR (cK e he h4)
def U2(ops:Array Oper)(ord D A T:List Nat)(p0:Nat)(dst:Nat->Nat):Bool:=
 Mz ops&&GZ ops D T&&decide (p0<ops.size)&&!D.contains p0&&D.all λi=>ord.contains i&&(A.contains i||match ops[i]? with
  | some o=>o.dst == some (dst i)
  | none=>false)
theorem Mi{w:World}{ord D A:List Nat}{dst:Nat->Nat}{val:Nat->Value}{a0:Act}{m:Nat}(T:List Nat)(p0:Nat){dsts:List Nat}{ds:List Deferred}{f:Nat}{listed:Array Bool}{a:Act}
 (h1:∀ i∈ord,dst i<m/\dst i∈dsts) (h2:∀ i∈ord,∀ j∈ord,j≠i->dst i≠dst j)
 (h:Held ops D A dst val (iF a0 m dsts) m ds f listed a) (hB:U2 ops ord D A T p0 dst=true)
 (hy:∀ i∈D,i∉A->∀ o:Oper,ops[i]?=some o->∀ a:Act,(∀ q∈iF a0 m dsts,a.eval (.tmp q.1)=q.2)->(∀ e∈o.after,Region.binds .any e=true->e.on∈D->a.eval (.tmp (dst e.on))=val e.on)->YieldsIn P ops (λw'=>w'=w) o (val i) a)
 (qv:∀ p∈T,∀ f listed a,Held ops D A dst val (iF a0 m dsts) m ds (f+1) listed a->p∈Region.ready .any ops listed->((k:Nat)->(_:zk ops D p k=true:=by kernel_rfl)->a.eval (.tmp (dst k))=val k)->wpOp P ops Q p (wpAny P .any ops Q f (listed.setIfInBounds p true)) a w) :
 wpAny P .any ops Q f listed a w:=by
 simp only[U2,Bool.and_eq_true,Qa,Bool.not_eq_true',List.all_eq_true,List.contains_iff_mem,Bool.or_eq_true] at hB;obtain⟨⟨⟨⟨b1,b2⟩,b3⟩,b4⟩,b5⟩:=hB;have lh:p0∉D:=λe=>by rw[List.contains_iff_mem.2 e] at b4;cases b4
 refine bOX (T:=T) (bMJ b1) b3 lh (Vk b2) (λi hi hA=>?_) (λi hi=>(h1 i (b5 i hi).1).1) (λi hi j hj=>h2 i (b5 i hi).1 j (b5 j hj).1) (λi hi=>GO (h1 i (b5 i hi).1).2) hy (λp KT f listed a hH hr=>qv p KT f listed a hH hr (λk hk=>?_)) f listed a h
 ·have:=(b5 i hi).2.resolve_left hA
  cases ho:ops[i]? with
  | none=>rw[ho] at this;cases this
  | some o=>rw[ho] at this;exact⟨o,rfl,by simpa using this⟩
 ·obtain⟨_,o,ho,cK⟩:=mem_ready.1 hr;simp only[zk,ho,Bool.and_eq_true,List.contains_iff_mem] at hk;obtain⟨CR,hk⟩:=hk;rw[Array.any_eq_true'] at hk;obtain⟨e,he,h3⟩:=hk;simp only[Bool.and_eq_true,beq_iff_eq] at h3;obtain⟨h4,rfl⟩:=h3;exact hH.good.val _ CR (cK e he h4)
theorem rR{D:List Nat}{dst:Nat->Nat}{val:Nat->Value}{m:Nat}{dsts:List Nat}{a:Act}(hm:a.tmps.size=m):Held ops D [] dst val (iF a m dsts) m a.defers ops.size (Array.replicate ops.size false) a:=Held.start (λq hq=>brJ q hq) hm
def nxB(ops:Array Oper)(ord D D':List Nat)(p:Nat):Bool:=ord.contains p&&decide (p<ops.size)&&!D.contains p&&D'.contains p&&D.all λi=>D'.contains i&&ord.contains i
theorem Held.next{ord D A D':List Nat}{dst:Nat->Nat}{val val':Nat->Value}{a0:Act}{m p f:Nat}{dsts:List Nat}{ds:List Deferred}{listed:Array Bool}{a:Act}{v:Value}(h:Held ops D A dst val (iF a0 m dsts) m ds (f+1) listed a)
 (h1:∀ i∈ord,dst i<m/\dst i∈dsts) (h2:∀ i∈ord,∀ j∈ord,j≠i->dst i≠dst j) (hp:p∈Region.ready .any ops listed) (Lm:val' p=v:=by rfl) (hB:nxB ops ord D D' p=true:=by kernel_rfl)
 (hval:∀ i∈D,val' i=val i:=by intro i hi;(repeat' (rcases hi with _ | ⟨_,hi⟩))<;>rfl) :
 Held ops D' (p::A) dst val' (iF a0 m dsts) m ds f (listed.setIfInBounds p true) (a.put (some (dst p)) v):=by
 simp only[nxB,Bool.and_eq_true,Qa,Bool.not_eq_true',List.all_eq_true,List.contains_iff_mem] at hB;obtain⟨⟨⟨⟨b1,b2⟩,b3⟩,b4⟩,b5⟩:=hB;have lh:p∉D:=λe=>by rw[List.contains_iff_mem.2 e] at b3;cases b3
 exact h.act hp lh (λi hi=>⟨λe=>hi (b5 i e).1,λe=>hi (e ▸ b4)⟩) hval Lm (h1 p b1).1 (λj hj=>h2 p b1 j (b5 j hj).2 (λe=>lh (e ▸ hj))) (GO (h1 p b1).2) b2
theorem nU{w:World}{D A:List Nat}{dst:Nat->Nat}{val:Nat->Value}{a0 a b:Act}{m p f:Nat}{dsts:List Nat}{listed:Array Bool}(h:Held ops D A dst val (iF a0 m (D.map dst)) m a0.defers (f+1) listed a)(hp:p∈Region.ready .any ops listed)(hm:a0.tmps.size=m)
 (h1:∀ i∈D,dst i<m/\dst i∈dsts) (hl:(Gx ops p&&D.all λi=>decide (i<ops.size)&&i != p)=true) (xD:a=kq a0 (D.map λi=>(dst i,val i))->Q .normal b w):wpAny P .any ops Q f (listed.setIfInBounds p true) b w:=by
 simp only[Bool.and_eq_true,List.all_eq_true,Qa,bne_iff_ne] at hl;obtain⟨rfl,u6⟩:=h.all hp hl.1;have hG:=h.good;have hf:=Held.frame h hm (λi hi=>u6 i (hl.2 i hi).1 (hl.2 i hi).2) (λi hi=>(h1 i hi).1);refine⟨bnQ (λi hi=>?_) (by rw[Array.size_setIfInBounds];exact hG.size),?_⟩
 ·by_cases hip:i=p
  ·subst hip;have hs:i<listed.size:=by rw[hG.size];exact hi
   simp[Array.getD,hs]
  ·exact vE (u6 i hi hip)
 ·exact xD hf
theorem cC{A B:Prop}{w:World}{R:World->Prop}(h:A)(k:R w):(A/\∀ w',w'=w->R w')\/B:=.inl ⟨h,λw' e=>e ▸ k⟩
end
end
namespace Np

end Np
section
section
variable {P:Program} {ops:Array Oper} {Q:Exit->Act->World->Prop} {n l:Nat}
theorem bsX{row:String}{args:Array Value}{w:World}{R:Value->World->Prop}(h:Rows P row args w R):RowsIn (Fence.wide.inRound l) n P row args w R:=by
 intro c cs _;obtain⟨v,w',r,s⟩:=h c cs;exact⟨v,w',r,stepsIn_wide.2 s⟩
theorem bPQ{o:Oper}{a:Act}{K:Act->World->Prop}{w:World}(hd:∀ c,o.op≠.defer c)(Cp:¬ LetsOut Q)(h:o.wp P a w K Q\/(o.asks P a w/\LetsOut Q)):o.wpIn (Fence.wide.inRound l) n P a w K Q:=by
 have h:=h.resolve_right (λe=>Cp e.2);refine⟨λf _=>trivial,?_⟩;rw[Oper.semAt_eq _ _ _ hd];unfold Oper.wp at h;generalize (execOp a.eval o).run P w=r at *
 cases r with
 | ok x w'=>
  cases x<;>simp only[Oper.upon,Oper.uponIn] at h |-<;>first | exact h | exact h.elim | skip
  ·exact⟨λe=>by simp[Fence.wide] at e,CallsIn.inRound l (callsIn_wide.2 h)⟩
  ·exact⟨λe=>by simp[Fence.wide] at e,bsX h⟩
 | halt x w'=>cases x<;>simp only[Oper.upon,Oper.uponIn] at h |-<;>first | exact h | exact h.elim
theorem bOJ{md:Region.Mode}(hd:∀ (i:Nat) (o:Oper),ops[i]?=some o->∀ c,o.op≠.defer c)(Cp:¬ LetsOut Q):∀ (f:Nat) {listed:Array Bool} {a:Act} {w:World},wpAny P md ops Q f listed a w->wpAnyIn (Fence.wide.inRound l) n P md ops Q f listed a w:=by
 intro f
 induction f with
 | zero=>exact λh=>h
 | succ f ih=>
  intro listed a w h;refine⟨h.1,λi hi=>?_⟩;have h2:=h.2 i hi;unfold wpOp at h2;unfold wpOpIn
  cases ho:ops[i]? with
  | none=>rw[ho] at h2;exact ih h2
  | some o=>
   rw[ho] at h2;dsimp only at h2 |-;split at h2
   ·rename_i hw;rw[QbQ hw];refine Oper.wpIn_mono (λa w h=>ih h) (bPQ (hd i o ho) Cp h2)
   ·rename_i hw;rw[Qc hw];exact⟨λ_ _=>trivial,ih h2⟩
end
def LO(ops:Array Oper):Bool:=ops.all λo=>match o.op with | .defer _=>false | _=>true
theorem bfY{ops:Array Oper}(h:LO ops=true):∀ (i:Nat) (o:Oper),ops[i]?=some o->∀ c,o.op≠.defer c:=λi o ho c e=>by
 unfold LO at h;rw[Array.all_eq_true] at h;obtain⟨hi,hg⟩:=eQ.1 ho
 have:=h i hi
 rw[hg,e] at this
 cases this
section
variable {P:Program} {ops:Array Oper} {Q:Exit->Act->World->Prop} {n l id:Nat} {a:Act} {w:World}
theorem Vt(hd:LO ops=true)(hm:P.follows .mixedOrders=true)(Cp:¬ LetsOut Q)(h:wpAny P .any ops Q ops.size (Array.replicate ops.size false) a w.drew):(Code.region id ops true).wpIn (Fence.wide.inRound l) n P Q a w:=
 wpIn_region_any hm (bOJ (bfY hd) Cp _ h)
end
theorem MD{F:Fence}{n:Nat}{P:Program}{c:Code}{Q:Exit->Act->World->Prop}{a:Act}{w:World}(h:∀ a0,a0=a->c.wpIn F n P Q a0 w):c.wpIn F n P Q a w:=h a rfl
section
variable {P:Program} {ops:Array Oper} {Q:Exit->Act->World->Prop} {n l:Nat}
end
end
section
open Go.RowKit
section
variable {P:Program} {ops:Array Oper} {Q:Exit->Act->World->Prop}
theorem brZ{a0:Act}{m:Nat}{ds ds':List Nat}(h:∀ d∈ds,d∈ds'):∀ q∈iF a0 m ds',q∈iF a0 m ds:=λq hq=>by
 unfold iF at hq |-;obtain⟨j,hj,rfl⟩:=List.mem_map.1 hq;refine List.mem_map.2 ⟨j,?_,rfl⟩;rw[List.mem_filter] at hj |-;refine⟨hj.1,?_⟩;have h2:=hj.2;simp only[Bool.not_eq_true',List.contains_eq_mem,decide_eq_false_iff_not] at h2 |-;exact λk=>h2 (h j k)
def skB(ops:Array Oper)(D D':List Nat)(p:Nat):Bool:=decide (p<ops.size)&&!D.contains p&&D'.contains p&&D.all λi=>D'.contains i
theorem Held.skip{D A D':List Nat}{dst:Nat->Nat}{val val':Nat->Value}{a0:Act}{m p f:Nat}{dsts dsts':List Nat}{ds:List Deferred}{listed:Array Bool}{a:Act}(h:Held ops D A dst val (iF a0 m dsts) m ds (f+1) listed a)(hp:p∈Region.ready .any ops listed)
 (hs:(dsts.all (λd=>dsts'.contains d)&&decide (dst p<m)&&!dsts.contains (dst p))=true:=by kernel_rfl) (hv:val' p=a0.eval (.tmp (dst p))) (hB:skB ops D D' p=true:=by kernel_rfl)
 (hval:∀ i∈D,val' i=val i:=by intro i hi;(repeat' (rcases hi with _ | ⟨_,hi⟩))<;>rfl) :
 Held ops D' (p::A) dst val' (iF a0 m dsts') m ds f (listed.setIfInBounds p true) a:=by
 simp only[skB,Bool.and_eq_true,Qa,Bool.not_eq_true',List.all_eq_true,List.contains_iff_mem] at hB;obtain⟨⟨⟨ej,b3⟩,b4⟩,b5⟩:=hB;simp only[Bool.and_eq_true,Qa,Bool.not_eq_true',List.all_eq_true,List.contains_iff_mem] at hs;obtain⟨⟨s1,s2⟩,s3⟩:=hs;have jC:dst p∉dsts:=λe=>by rw[List.contains_iff_mem.2 e] at s3;cases s3
 have lh:p∉D:=λe=>by rw[List.contains_iff_mem.2 e] at b3;cases b3
 have hg:=h.good;have fL:=(mem_ready.1 hp).1;have gH:p<listed.size:=by rw[hg.size];exact ej
 have aF:listed[p]=false:=by simpa [Array.getD,gH] using fL
 refine⟨⟨hg.defs,by simp[hg.size],?_,?_,?_,λq hq=>hg.base q (brZ s1 q hq),hg.tmps⟩,?_,B5 hp h.clo⟩
 ·have h1:=hg.left;rw[Array.toList_setIfInBounds,List.count_set (by simpa using gH)];simp[aF,h1]
 ·intro j hj kg;have h1:j∉D:=λe=>kg (b5 j e);have h2:j≠p:=λe=>kg (e ▸ b4)
  have:=hg.not j hj h1
  rw[getD_set_ne true (λe=>h2 e.symm)];exact this
 ·intro j hj hl;rcases GC hl with rfl | hl
  ·rw[hv];exact aM hg.base s2 jC
  ·have kg:j∈D:=Decidable.byContradiction λkg=>by
    by_cases xG:j<ops.size
    ·have h1:=hg.not j xG kg;have h3:j<listed.size:=by rw[hg.size];exact xG
     simp[Array.getD,h3] at h1 hl;rw[h1] at hl;cases hl
    ·have h3:¬ j<listed.size:=by rw[hg.size];exact xG
     simp[Array.getD,h3] at hl
   rw[hval j kg];exact hg.val j kg hl
 ·intro i hi;rcases List.mem_cons.1 hi with rfl | hi
  ·simp[Array.getD,gH]
  ·exact vE (h.done i hi)
end
section
variable {P:Program} {C:World->Prop} {l0 m:Nat}
end
section
variable {P:Program} {ops:Array Oper} {Q:Exit->Act->World->Prop}
structure InvS(ops:Array Oper)(ord T:List Nat)(p0 m:Nat)(dep:Nat->List Nat)(dst:Nat->Nat):Prop where
 well:∀ (i:Nat) (o:Oper),ops[i]?=some o->∀ e∈o.after,e.on<i
 p0s:p0<ops.size
 p0o:p0∉ord
 last:Gx ops p0=true
 all:∀ i,i<ops.size->i=p0\/i∈ord
 tord:∀ p∈T,p∈ord/\dep p = [p]
 depT:∀ i∈ord,∀ j∈dep i,j∈T
 size:∀ i∈ord,i<ops.size
 qdst:∀ i∈ord,i∉T->∃ o,ops[i]?=some o/\o.dst=some (dst i)
 qon:∀ i∈ord,i∉T->∀ o,ops[i]?=some o->∀ j∈dep i,∃ e∈o.after,Region.binds .any e=true/\j∈dep e.on/\e.on<ops.size
 qall:∀ i∈ord,i∉T->∀ o,ops[i]?=some o->∀ e∈o.after,Region.binds .any e=true->e.on∈ord/\∀ j∈dep e.on,j∈dep i
 p0on:∀ o,ops[p0]?=some o->∀ j∈T,∃ e∈o.after,Region.binds .any e=true/\j∈dep e.on/\e.on<ops.size
 lt:∀ i∈ord,dst i<m
 inj:∀ i∈ord,∀ j∈ord,j≠i->dst i≠dst j
end
section
variable {P:Program} {ops:Array Oper} {Q:Exit->Act->World->Prop}
theorem bOY{w:World}{D A T:List Nat}{dst:Nat->Nat}{val:Nat->Value}{base:List (Nat×Value)}{m p0:Nat}{ds:List Deferred}
 (hw:∀ (i:Nat) (o:Oper),ops[i]?=some o->∀ e∈o.after,Region.binds .any e=true->e.on<i) (oB:p0<ops.size) (C8:p0∉D)
 (Dq:∀ (i:Nat) (o:Oper),ops[i]?=some o->i∉D->i∉T->∃ e∈o.after,Region.binds .any e=true/\e.on∉D/\e.on<ops.size)
 (CI:∀ i∈D,i∉A->∃ o:Oper,ops[i]?=some o/\o.dst=some (dst i)) (ag:∀ i∈D,dst i<m) (tE:∀ i∈D,∀ j∈D,j≠i->dst i≠dst j) (ez:∀ i∈D,∀ q∈base,dst i≠q.1)
 (hy:∀ i∈D,i∉A->∀ o:Oper,ops[i]?=some o->∀ a:Act,(∀ q∈base,a.eval (.tmp q.1)=q.2)->(∀ e∈o.after,Region.binds .any e=true->e.on∈D->a.eval (.tmp (dst e.on))=val e.on)->YieldsIn P ops (λw'=>w'=w) o (val i) a)
 (qv:∀ p∈T,∀ f listed a,Held ops D A dst val base m ds (f+1) listed a->p∈Region.ready .any ops listed->wpOp P ops Q p (wpAny P .any ops Q f (listed.setIfInBounds p true)) a w) :
 ∀ f listed a,Held ops D A dst val base m ds f listed a->wpAny P .any ops Q f listed a w:=by
 intro f
 induction f with
 | zero=>intro listed a h;exact absurd h.good (ly.none oB C8)
 | succ f ih=>
  intro listed a h;have hg:=h.good;refine⟨λh0=>absurd h0 (Uk hw hg.size p0 oB (hg.not p0 oB C8)),λi hi=>?_⟩;obtain⟨hr,o,ho,cK⟩:=mem_ready.1 hi;by_cases hip:i∈T
  ·exact qv i hip f listed a h hi
  ·have gu:i∈D:=Decidable.byContradiction λgu=>by
    obtain⟨e,he,qB,fI,hes⟩:=Dq i o ho gu hip;have h1:=cK e he qB;have h2:=hg.not e.on hes fI;have h3:e.on<listed.size:=by rw[hg.size];exact hes
    simp[Array.getD,h3] at h1 h2;rw[h1] at h2
    cases h2
   have aI:i∉A:=λhA=>by
    have h1:=h.done i hA;have h3:i<listed.size:=by rw[hg.size];exact (eQ.1 ho).1
    simp[Array.getD,h3] at h1 hr;rw[h1] at hr;cases hr
   obtain⟨o',ho',hd⟩:=CI i gu aI;rw[ho] at ho';cases ho';have CE:∀ e∈o.after,Region.binds .any e=true->e.on∈D->a.eval (.tmp (dst e.on))=val e.on:=λe he qB hD=>hg.val _ hD (cK e he qB);have hq:=ly.step (P:=P) hg gu hr ho hd (ag i gu) (tE i gu) (ez i gu) (hy i gu aI o ho a hg.base CE);exact wpOp_of_qOp (C:=λw'=>w'=w) rfl (λa' w' hw' h'=>by subst hw';exact ih _ a' ⟨h',λj hj=>vE (h.done j hj),B5 hi h.clo⟩) hq
def U3(ops:Array Oper)(ord D A T:List Nat)(p0:Nat)(dst:Nat->Nat):Bool:=
 G0 ops&&GZ ops D T&&decide (p0<ops.size)&&!D.contains p0&&D.all λi=>ord.contains i&&(A.contains i||match ops[i]? with
  | some o=>o.dst == some (dst i)
  | none=>false)
theorem bCY{w:World}{ord D A:List Nat}{dst:Nat->Nat}{val:Nat->Value}{a0:Act}{m:Nat}(T:List Nat)(p0:Nat){dsts:List Nat}{ds:List Deferred}{f:Nat}{listed:Array Bool}{a:Act}
 (h1:∀ i∈ord,dst i<m/\dst i∈dsts) (h2:∀ i∈ord,∀ j∈ord,j≠i->dst i≠dst j)
 (h:Held ops D A dst val (iF a0 m dsts) m ds f listed a) (hB:U3 ops ord D A T p0 dst=true)
 (hy:∀ i∈D,i∉A->∀ o:Oper,ops[i]?=some o->∀ a:Act,(∀ q∈iF a0 m dsts,a.eval (.tmp q.1)=q.2)->(∀ e∈o.after,Region.binds .any e=true->e.on∈D->a.eval (.tmp (dst e.on))=val e.on)->YieldsIn P ops (λw'=>w'=w) o (val i) a)
 (qv:∀ p∈T,∀ f listed a,Held ops D A dst val (iF a0 m dsts) m ds (f+1) listed a->p∈Region.ready .any ops listed->((k:Nat)->(_:zk ops D p k=true:=by kernel_rfl)->a.eval (.tmp (dst k))=val k)->wpOp P ops Q p (wpAny P .any ops Q f (listed.setIfInBounds p true)) a w) :
 wpAny P .any ops Q f listed a w:=by
 simp only[U3,Bool.and_eq_true,Qa,Bool.not_eq_true',List.all_eq_true,List.contains_iff_mem,Bool.or_eq_true] at hB;obtain⟨⟨⟨⟨b1,b2⟩,b3⟩,b4⟩,b5⟩:=hB;have lh:p0∉D:=λe=>by rw[List.contains_iff_mem.2 e] at b4;cases b4
 refine bOY (T:=T) (Vp b1) b3 lh (Vk b2) (λi hi hA=>?_) (λi hi=>(h1 i (b5 i hi).1).1) (λi hi j hj=>h2 i (b5 i hi).1 j (b5 j hj).1) (λi hi=>GO (h1 i (b5 i hi).1).2) hy (λp KT f listed a hH hr=>qv p KT f listed a hH hr (λk hk=>?_)) f listed a h
 ·have:=(b5 i hi).2.resolve_left hA
  cases ho:ops[i]? with
  | none=>rw[ho] at this;cases this
  | some o=>rw[ho] at this;exact⟨o,rfl,by simpa using this⟩
 ·obtain⟨_,o,ho,cK⟩:=mem_ready.1 hr;simp only[zk,ho,Bool.and_eq_true,List.contains_iff_mem] at hk;obtain⟨CR,hk⟩:=hk;rw[Array.any_eq_true'] at hk;obtain⟨e,he,h3⟩:=hk;simp only[Bool.and_eq_true,beq_iff_eq] at h3;obtain⟨h4,rfl⟩:=h3;exact hH.good.val _ CR (cK e he h4)
end
end
end Go.Proofs.YtadhigmjilijcaaGreatDoor
