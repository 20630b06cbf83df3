/- Parts of the proof. No condition. -/
import Derived.Shelf.Strings.OnBuilder
import Derived.Shelf.Small.Bits
import Derived.Shelf.Strconv.Itoa3
import Derived.Shelf.Strings.LastIndex
import Derived.Shelf.Strings.Prefix
import Derived.Test.YtfnopgdcaanaiaaGreatDoorProg
import Derived.Lib.AppendIntMem
import Derived.Test.YtfnopgdcaanaiaaGreatDoorV01
set_option linter.all false
set_option maxRecDepth 100000
set_option maxHeartbeats 8000000
namespace Go.Proofs.YtfnopgdcaanaiaaGreatDoor
open Go.Proofs.Tryz
namespace Np
def okR:List (List UInt8)->Bool
 | []=>true
 | [x]=>cD x||x == [42]
 | x::y::r=>cD x&&okR (y::r)
theorem avQ:cD [42]=false:=by decide
theorem Wh(xs:List (List UInt8))(n:Nat):fq xs n true=xs.isEmpty:=by cases xs <;> simp[fq]
theorem Wg:∀ (xs:List (List UInt8)) (n:Nat),n<=8->fq xs n false=(decide (n+xs.length<=8)&&okR xs):=by
 intro xs
 induction xs with
 | nil=>intro n hn;simp[fq,okR,hn]
 | cons x xs ih=>
  intro n hn;rw[fq];by_cases h8:8<n+1
  ·rw[Qb (by simp;omega),tQ (by simp;omega)];rfl
  ·rw[Qc (by simp;omega)];by_cases hx:x = [42]
   ·subst hx;rw[Qb rfl,Wh]
    cases xs with
    | nil=>simp[okR];omega
    | cons y r=>simp[okR,avQ]
   ·rw[Qc hx];by_cases hl:cD x=true
    ·rw[Qb hl,ih (n+1) (by omega)]
     cases xs with
     | nil=>simp[okR,hl]
     | cons y r=>simp only[okR,hl,Bool.true_and,List.length_cons];congr 1;congr 1;apply propext;omega
    ·rw[Qc hl]
     cases xs with
     | nil=>simp[okR,hl,hx]
     | cons y r=>simp[okR,hl]
def ue:List (List UInt8)->Bool
 | []=>true
 | h::t=>(cD h||h == [42])&&t.all cD
theorem aaZ:∀ (a:List (List UInt8)) (h:List UInt8),okR (a ++ [h])=(a.all cD&&(cD h||h == [42])):=by
 intro a h
 induction a with
 | nil=>simp[okR]
 | cons x a ih=>
  cases a with
  | nil=>simp[okR]
  | cons y r=>
   simp only[List.cons_append,okR] at ih |-;rw[ih];simp[Bool.and_assoc]
theorem aaQ(l:List (List UInt8)):okR l.reverse=ue l:=by
 cases l with
 | nil=>rfl
 | cons h t=>rw[List.reverse_cons,aaZ,ue,List.all_reverse,Bool.and_comm]
theorem Ru(s:List UInt8):aG s=if s = [46] then true else if 60<s.length then false else ue (aZ s)&&decide ((aZ s).length<=8):=by
 unfold aG;split
 ·rfl
 ·split
  ·rfl
  ·rw[Wg _ 0 (by omega),aaQ,List.length_reverse,Bool.and_comm];simp
def ki:List (List UInt8)->List UInt8
 | []=>[]
 | [x]=>x
 | x::y::r=>x++46::ki (y::r)
theorem Y4(c:UInt8)(x:List UInt8)(xs:List (List UInt8)):ki ((c::x)::xs)=c::ki (x::xs):=by
 cases xs <;> simp[ki]
theorem yF(s:List UInt8):ki (aZ s)=s:=by
 induction s with
 | nil=>rfl
 | cons c r ih=>
  rw[aZ];have hne:=qV r
  cases hr:aZ r with
  | nil=>exact absurd hr hne
  | cons x xs=>
   rw[hr] at ih;split
   ·rename_i hc;subst hc;rw[ki,ih];rfl
   ·rw[Y4,ih]
theorem Y3:∀ (l m:List (List UInt8)),l≠[]->m≠[]->ki (l++m)=ki l++46::ki m:=by
 intro l
 induction l with
 | nil=>intro m h;exact absurd rfl h
 | cons x l ih=>
  intro m _ hm
  cases l with
  | nil=>
   cases m with
   | nil=>exact absurd rfl hm
   | cons y m=>simp[ki]
  | cons y l=>
   have:=ih m (by simp) hm
   simp only[List.cons_append,ki] at this |-;rw[this];simp
def eI(s:List UInt8):List (List UInt8):=if s = [46] then [] else aZ s
theorem B9(s:List UInt8):(eI s).reverse=back s:=by
 unfold eI back;split <;> rfl
theorem zX{a b:List UInt8}(h:back a=back b):a=b:=by
 unfold back at h;by_cases ha:a = [46]
 ·by_cases hb:b = [46]
  ·rw[ha,hb]
  ·rw[Qb ha,Qc hb] at h
   have:=qV b
   exact absurd (List.reverse_eq_nil_iff.1 h.symm) this
 ·by_cases hb:b = [46]
  ·rw[Qb hb,Qc ha] at h;exact absurd (List.reverse_eq_nil_iff.1 h) (qV a)
  ·rw[Qc ha,Qc hb] at h
   have:=List.reverse_inj.1 h
   rw[<-yF a,this,yF]
def inL(l m:List (List UInt8)):Bool:=decide (m.length<=l.length)&&(l.drop (l.length - m.length) == m)
theorem Pk{l m:List (List UInt8)} : inL l m=true↔∃ p,l=p++m:=by
 unfold inL;simp only[Bool.and_eq_true,Qa,beq_iff_eq];constructor
 ·rintro⟨h1,h2⟩;refine⟨l.take (l.length - m.length),?_⟩;rw[<-h2,List.length_drop]
  conv => lhs;rw[<-List.take_append_drop (l.length - m.length) l]
  congr 2;omega
 ·rintro⟨p,rfl⟩;refine⟨by simp,?_⟩;rw[List.length_append,Nat.add_sub_cancel,List.drop_left]
theorem B5{s z:List UInt8}(hz:z≠[]):inL (eI s) (eI z)=bq s z:=by
 rw[Bool.eq_iff_iff,Pk];unfold bq eI;simp only[Bool.or_eq_true,Bool.and_eq_true,beq_iff_eq,Qa];by_cases h1:z = [46]
 ·rw[Qb h1];exact⟨λ_=>.inl (.inr h1),λ_=>⟨_,(List.append_nil _).symm⟩⟩
 ·rw[Qc h1];by_cases h2:s = [46]
  ·rw[Qb h2];constructor
   ·rintro⟨p,hp⟩
    have:=List.append_eq_nil_iff.1 hp.symm
    exact absurd this.2 (qV z)
   ·rintro ((h | h) | ⟨⟨h3,_⟩,_⟩)
    ·exact absurd (h ▸ h2) h1
    ·exact absurd h h1
    ·subst h2;have h4:z.length<1:=h3;exact absurd (rQ (by omega)) hz
  ·rw[Qc h2];constructor
   ·rintro⟨p,hp⟩;by_cases h0:p = []
    ·subst h0;rw[List.nil_append] at hp;left;left;rw[<-yF s,hp,yF]
    ·right;have hs:s=ki p++46::z:=by
      rw[<-yF s,hp,Y3 _ _ h0 (qV z),yF]
     subst hs;refine⟨⟨by simp;omega,?_⟩,?_⟩
     ·rw[show (ki p++46::z).length - z.length=(ki p ++ [46]).length by simp;omega,show ki p++46::z=(ki p ++ [46])++z by simp,List.drop_left]
     ·rw[show (ki p++46::z).length - z.length - 1=(ki p).length by simp;omega];rw[oQ (bQ _)];simp
   ·rintro ((h | h) | ⟨⟨h3,h4⟩,h5⟩)
    ·exact⟨[],by rw[h];rfl⟩
    ·exact absurd h h1
    ·have hs:s=s.take (s.length - z.length - 1)++46::z:=by
      conv => lhs;rw[<-List.take_append_drop (s.length - z.length - 1) s]
      congr 1;obtain⟨hl,he⟩:=cQ.1 h5;rw[sQ hl,he,show s.length - z.length - 1+1=s.length - z.length by omega,h4]
     refine⟨aZ (s.take (s.length - z.length - 1)),?_⟩
     conv => lhs;rw[hs]
     rw[Cl]
def cO:List (List UInt8)->List (List UInt8)->Int
 | [],[]=>0
 | [],_::_=>-1
 | _::_,[]=>1
 | x::xs,y::ys=>if cN x y≠0 then cN x y else cO xs ys
theorem vf(x:List UInt8):cN x x=0:=by
 have:∀ x:List UInt8,Go.Op.bytesLess x x=false:=by
  intro x
  induction x with
  | nil=>rfl
  | cons a x ih=>simp[Go.Op.bytesLess,ih]
 simp[cN,this]
theorem rx{x y:List UInt8}(h:cN x y=0):x=y:=by
 unfold cN at h;split at h
 ·omega
 ·split at h
  ·assumption
  ·omega
theorem PX(l:List (List UInt8)):cO l l=0:=by
 induction l with
 | nil=>rfl
 | cons x l ih=>rw[cO,vf,Qc (by simp),ih]
theorem aaX:∀ (l m:List (List UInt8)),l≠m->cO l m=nj l m:=by
 intro l
 induction l with
 | nil=>
  intro m h
  cases m with
  | nil=>exact absurd rfl h
  | cons y m=>rfl
 | cons x l ih=>
  intro m h
  cases m with
  | nil=>rfl
  | cons y m=>
   rw[cO,nj];by_cases hc:cN x y≠0
   ·rw[Qb hc,Qb hc]
   ·rw[Qc hc,Qc hc]
    have:=rx (Decidable.not_not.1 hc)
    subst this;exact ih m (λe=>h (by rw[e]))
theorem Aa(a b:List UInt8):aI a b=cO (back a) (back b):=by
 unfold aI;split
 ·rename_i h;rw[h,PX]
 ·rename_i h;exact (aaX _ _ (λe=>h (zX e))).symm
theorem Ab(a:List UInt8):aI a a=0:=by simp[aI]
theorem Dk{a b:List UInt8}(h:aI a b=0):a=b:=by
 rw[Aa] at h;refine zX ?_
 have:∀ l m:List (List UInt8),cO l m=0->l=m:=by
  intro l
  induction l with
  | nil=>intro m h;cases m with
    | nil=>rfl
    | cons y m=>simp[cO] at h
  | cons x l ih=>
   intro m h
   cases m with
   | nil=>simp[cO] at h
   | cons y m=>
    rw[cO] at h;split at h
    ·rename_i hc;exact absurd h hc
    ·rename_i hc;rw[rx (Decidable.not_not.1 hc),ih m h]
 exact this _ _ h
theorem Dl(a b:DSet):hZ a b=if aI a.name b.name≠0 then aI a.name b.name else cP a.type b.type:=by
 unfold hZ;by_cases h:a.name=b.name
 ·rw[Qc (by simp[h]),h,Ab,Qc (by simp)]
 ·rw[Qb h,Qb (λe=>h (Dk e))]
theorem UT:∀ (x y:List UInt8),Go.Op.bytesLess x y=false->x≠y->Go.Op.bytesLess y x=true:=by
 intro x
 induction x with
 | nil=>intro y h hn;cases y with
   | nil=>exact absurd rfl hn
   | cons b y=>simp[Go.Op.bytesLess] at h
 | cons a x ih=>
  intro y h hn
  cases y with
  | nil=>simp[Go.Op.bytesLess]
  | cons b y=>
   simp only[Go.Op.bytesLess] at h |-;by_cases h1:a<b
   ·simp[h1] at h
   ·by_cases h2:b<a
    ·simp[h2]
    ·have h3:a=b:=by
      apply UInt8.toNat_inj.1;simp only[UInt8.lt_iff_toNat_lt] at h1 h2;omega
     subst h3;simp[h1] at h |-;exact ih y h (λe=>hn (by rw[e]))
theorem xX(x y:List UInt8):(Go.Op.bytesLess x y=true/\cN x y = -1)\/(Go.Op.bytesLess x y=false/\Go.Op.bytesLess y x=true/\x≠y/\cN x y=1)\/(Go.Op.bytesLess x y=false/\Go.Op.bytesLess y x=false/\x=y/\cN x y=0):=by
 cases h:Go.Op.bytesLess x y with
 | true=>exact .inl ⟨rfl,by simp[cN,h]⟩
 | false=>
  by_cases hn:x=y
  ·subst hn;exact .inr (.inr ⟨rfl,h,rfl,vf x⟩)
  ·exact .inr (.inl ⟨rfl,UT x y h hn,hn,by simp[cN,h,hn]⟩)
def JD(a b:Datum):Bool:=if a.text≠b.text then Go.Op.bytesLess a.text b.text else if a.n≠b.n then decide (a.n<b.n) else decide (a.m<b.m)
theorem Zu(a b:Datum):JD a b=decide (qo a b<0):=by
 unfold JD qo;rcases xX a.text b.text with ⟨h1,h2⟩ | ⟨h1,_,h3,h2⟩ | ⟨_,_,h3,h2⟩
 ·have hn:a.text≠b.text:=λe=>by rw[e,vf] at h2;omega
  rw[Qb hn,Qb (by omega),h1,h2];rfl
 ·rw[Qb h3,Qb (by omega),h1,h2];rfl
 ·rw[Qc (show ¬ a.text≠b.text from λe=>e h3),Qc (show ¬ cN a.text b.text≠0 from λe=>e h2)];by_cases h4:a.n=b.n
  ·rw[Qc (show ¬ a.n≠b.n from λe=>e h4)];have h5:cP a.n b.n=0:=by unfold cP;rw[Qc (by omega),Qc (by omega)]
   rw[Qc (show ¬ cP a.n b.n≠0 from λe=>e h5)];unfold cP;by_cases h6:a.m<b.m
   ·rw[Qb h6];simp[h6]
   ·by_cases h7:b.m<a.m
    ·rw[Qc h6,Qb h7];simp;omega
    ·rw[Qc h6,Qc h7];simp;omega
  ·rw[Qb (show a.n≠b.n from h4)];by_cases h6:a.n<b.n
   ·have h5:cP a.n b.n = -1:=by unfold cP;rw[Qb h6]
    rw[h5];simp[h6]
   ·have h5:cP a.n b.n=1:=by unfold cP;rw[Qc h6,Qb (by omega)]
    rw[h5];simp;omega
end Np
section
open Go.RowKit
def wu(l:List UInt8)(j:Nat):Prop:=∃ c,l[j]?=some c/\(Np.qK c=true\/Np.nK c=true\/(c=45/\0<j/\j+1<l.length))
theorem PN{c:UInt8}(h:Np.qK c=true\/Np.nK c=true):c≠45:=by rintro rfl;revert h;decide
theorem Y1{l:List UInt8}(h:∀ j,j<l.length->wu l j):Np.cD l=(decide (1<=l.length)&&decide (l.length<=12)):=by
 have aP:l.all Np.mN=true:=by
  rw[List.all_eq_true];intro c hc;obtain⟨j,hj,rfl⟩:=nQ.1 hc;obtain⟨c,e,ho⟩:=h j hj;rw[aQ hj] at e;simp only[Option.some.injEq] at e;rw[e];unfold Np.mN;rcases ho with ho | ho | ⟨ho,_⟩ <;> simp[ho]
 unfold Np.cD;rw[aP,Bool.and_true];by_cases h1:1<=l.length
 ·have hh:∀ j,j<l.length->j=0\/j+1=l.length->l[j]?≠some 45:=by
   intro j hj he hc;obtain⟨c,e,ho⟩:=h j hj;rw[hc] at e;simp only[Option.some.injEq] at e;subst e;rcases ho with ho | ho | ⟨_,h2,h3⟩
   ·exact PN (.inl ho) rfl
   ·exact PN (.inr ho) rfl
   ·omega
  have h2:(l.head? == some 45)=false:=by rw[List.head?_eq_getElem?];simpa using hh 0 (by omega) (.inl rfl)
  have h3:(l.getLast? == some 45)=false:=by rw[List.getLast?_eq_getElem?];simpa using hh (l.length - 1) (by omega) (.inr (by omega))
  rw[h2,h3];simp
 ·rw[tQ h1];rfl
theorem Pu{l:List UInt8}{j:Nat}(hj:j<l.length)(h:¬ wu l j):Np.cD l=false:=by
 cases hl:Np.cD l with
 | false=>rfl
 | true=>
  exfalso;unfold Np.cD at hl;simp only[Bool.and_eq_true,Qa,Bool.not_eq_true',beq_eq_false_iff_ne] at hl;obtain⟨⟨⟨_,h2⟩,h3⟩,h4⟩:=hl;have hb:=List.all_eq_true.1 h4 l[j] (List.getElem_mem hj);refine h ⟨l[j],aQ hj,?_⟩;simp only[Np.mN,Bool.or_eq_true,beq_iff_eq] at hb;rcases hb with (hb | hb) | hb
  ·exact .inl hb
  ·exact .inr (.inl hb)
  ·refine .inr (.inr ⟨hb,?_,?_⟩)
   ·refine Nat.pos_of_ne_zero λe=>?_;subst e;rw[List.head?_eq_getElem?,aQ hj,hb] at h2;exact h2 rfl
   ·refine Nat.lt_of_not_le λe=>?_
    have:j=l.length - 1:=by omega
    rw[List.getLast?_eq_getElem?,<-this,aQ hj,hb] at h3;exact h3 rfl
theorem Z9(s:ByteArray)(k:Nat)(hk:k<s.size):wu s.data.toList k↔((97<=(s[k].toNat:Int)/\(s[k].toNat:Int)<=122)\/(48<=(s[k].toNat:Int)/\(s[k].toNat:Int)<=57)\/((s[k].toNat:Int)=45/\0<k/\k+1<s.size)):=by
 unfold wu;rw[ya s k hk];simp only[Option.some.injEq,exists_eq_left'];have tr:s[k]=45↔(s[k].toNat:Int)=45:=by
  constructor
  ·intro h;rw[h];rfl
  ·intro h;apply UInt8.toNat_inj.1;have:s[k].toNat=45:=by omega
   rw[this];rfl
 rw[tr,bk];unfold Np.qK Np.nK;simp only[Bool.and_eq_true,Qa,UInt8.le_iff_toNat_le];have e1:(97:UInt8).toNat=97:=rfl;have e2:(122:UInt8).toNat=122:=rfl;have e3:(48:UInt8).toNat=48:=rfl;have e4:(57:UInt8).toNat=57:=rfl;rw[e1,e2,e3,e4];omega
theorem alQ(s:ByteArray)(hs:s.size<=140737488355328)(w:World) :
 Calls prog 104 #[.string s] w (aPQ w (.bool (Np.cD s.data.toList))):=by
 go_enter func104,ntmps104;go_wp2;go_loop [3] (λi=>∃ k:Nat,k<=s.size/\i = .int .i64 k/\Hid (∀ j,j<k->wu s.data.toList j)) (λi=>s.size - (intOf i).toNat)
 case atStart=>exact⟨0,jQ _,rfl,jq (λj h=>by omega)⟩
 case round=>
  obtain⟨k,hk,rfl,HA⟩:=hrel;by_cases aa:k<s.size
  ·have hb:=yV s[k];have HN:=jq (Z9 s k aa);have BC:wu s.data.toList k->∀ j,j<k+1->wu s.data.toList j:=λh j hj=>by
    by_cases e:j=k
    ·subst e;exact h
    ·exact HA.out j (by omega)
   have HX:=jq BC;clear BC;have bF:(0:Int)<=k:=by omega
   by_cases tr:(s[k].toNat:Int)=45
   ·have hE:((s[k].toNat:Int) == 45)=true:=by simp[tr]
    have Fn:=jq tr;have gT:(s[k].toNat:Int)<48:=by omega
    have aTJ:(s[k].toNat:Int)<97:=by omega
    clear tr;by_cases hin:0<k/\k+1<s.size
    ·obtain⟨h1,h2⟩:=hin;have h3:(0:Int)<k:=by omega
     have h4:(k:Int)<(s.size:Int) - 1:=by omega
     go_wp2;go_round
     case rel=>exact⟨k+1,by omega,by go_num,jq (HX.out (HN.out.2 (.inr (.inr ⟨Fn.out,h1,h2⟩))))⟩
     case measure=>simp[intOf] <;> omega
    ·have HI:=jq hin;clear hin;go_wp2
     all_goals first
      | (go_ret
         exact⟨ae (Pu (by rw[bk];exact aa) (λh=>by have:=HN.out.1 h;have:=HI.out;omega)).symm,rfl⟩)
      | (exfalso;have:=HI.out;omega)
   ·have hE:((s[k].toNat:Int) == 45)=false:=by simp[tr]
    have Fn:=jq tr;clear tr;go_wp2
    all_goals first
     | (go_ret
        exact⟨ae (Pu (by rw[bk];exact aa) (λh=>by have:=HN.out.1 h;have:=Fn.out;omega)).symm,rfl⟩)
     | (go_round
        case rel=>exact⟨k+1,by omega,by go_num,jq (HX.out (HN.out.2 (by omega)))⟩
        case measure=>simp[intOf] <;> omega)
  ·have hf:Np.cD s.data.toList=(decide (1<=s.size)&&decide (s.size<=12)):=Y1 (λj hj=>HA.out j (by rw[bk] at hj;omega));have HF:=jq hf;clear hf;go_wp2
   all_goals
    go_ret;exact⟨ae (by rw[HF.out,Bool.eq_iff_iff];simp;omega),rfl⟩
theorem anZ(s:ByteArray)(hs:s.size<=140737488355328)(w:World) :
 Calls prog 300 #[.string s] w (aPQ w (.bool (Np.kh s.data.toList))):=by
 go_enter func300,ntmps300;go_wp2
 all_goals first
  | (go_ret;exact⟨ae (Po s ‹_›).symm,rfl⟩)
  | (go_ret;exact⟨ae (Pp s ‹_›).symm,rfl⟩)
  | (go_ret;exact⟨ae (Pq s (by omega) ‹_›).symm,rfl⟩)
  | (have h:((s[s.size - 1].toNat:Int) == 32)=true:=by assumption
     go_ret;exact⟨ae (Pr s (by omega) (by simpa using h)).symm,rfl⟩)
  | skip
 ·have h2:(s.size:Int)<=40:=by assumption
  have h3:¬ (s[0].toNat:Int)=32:=by assumption
  have h4:((s[s.size - 1].toNat:Int) == 32)=false:=by assumption
  have H4:=jq h4;clear h4;have H3:=jq h3;go_loop [4] (λi=>∃ k:Nat,k<=s.size/\i = .int .i64 k/\(s.data.toList.take k).all Np.oD=true) (λi=>s.size - (intOf i).toNat)
  case atStart=>exact⟨0,jQ _,rfl,rfl⟩
  case round=>
   obtain⟨k,hk,rfl,ha⟩:=hrel;have HA:=jq ha;clear ha;by_cases aa:k<s.size
   ·have hb:=yV s[k];by_cases hf:(97<=(s[k].toNat:Int)/\(s[k].toNat:Int)<=122)\/(48<=(s[k].toNat:Int)/\(s[k].toNat:Int)<=57)\/(s[k].toNat:Int)=32
    ·have hl:Np.oD s[k]=true:=by rw[Dy];exact uQ hf
     have HL:=jq hl;clear hl;go_wp2
     all_goals first
      | (go_round
         case rel=>exact⟨k+1,by omega,by go_num,GW s k aa _ HA.out HL.out⟩
         case measure=>simp[intOf] <;> omega)
      | (exfalso
         have hne:((s[k].toNat:Int) != 32)=true:=by assumption
         have BA:=bne_iff_ne.1 hne;omega)
    ·have hl:Np.oD s[k]=false:=by rw[Dy];exact tQ hf
     have HL:=jq hl;clear hl;go_wp2
     all_goals first
      | (go_ret;exact⟨ae (Ps s k aa HL.out).symm,rfl⟩)
      | (exfalso;omega)
      | (exfalso
         have hne:((s[k].toNat:Int) != 32)=false:=by assumption
         have BA:(s[k].toNat:Int)=32:=by simpa using hne
         omega)
   ·go_wp2;go_ret;exact⟨ae (Pt s (by omega) (by omega) H3.out (by simpa using H4.out) (by have:=HA.out;rwa [E8 s k (by omega)] at this)).symm,rfl⟩
theorem EU(s:ByteArray)(hs:s.size<=140737488355328)(w:World) :
 Calls prog 225 #[.string s] w (aPQ w (.bool (Np.eF s.data.toList))):=by
 by_cases h0:0<s.size
 ·have he:((s[0].toNat:Int) == 42)=Np.eF s.data.toList:=by
   unfold Np.eF;rw[Bd s h0]
   have:=oY s[0] 42 (by decide)
   rw[Bool.eq_iff_iff] at this |-;simp only[beq_iff_eq,Qa,Option.some.injEq] at this |-;exact this.symm
  have HE:=jq he;clear he;go_enter func225,ntmps225;go_wp2
  all_goals
   go_ret;exact⟨ae HE.out,rfl⟩
 ·have he:Np.eF s.data.toList=false:=by
   have:s.data.toList = []:=rQ (by rw[bk];omega)
   rw[this];rfl
  have HE:=jq he;clear he;go_enter func225,ntmps225;go_wp2
  all_goals
   go_ret;exact⟨ae HE.out.symm,rfl⟩
theorem QB(x lo hi:Int)(w:World) :
 Calls prog 223 #[.int .i64 x,.int .i64 lo,.int .i64 hi] w (aPQ w (.bool (decide (lo<=x)&&decide (x<=hi)))):=by
 by_cases h1:lo<=x
 all_goals
  go_enter func223,ntmps223;go_wp2;go_ret;exact⟨ae (by simp;omega),rfl⟩
theorem amX(x:Int)(w:World) :
 Calls prog 224 #[.int .i64 x] w (aPQ w (.bool (decide (x=3)||decide (x=4)))):=by
 by_cases h1:x=3
 ·subst h1;go_enter func224,ntmps224;go_wp2;go_ret;exact⟨rfl,rfl⟩
 ·have h2:(x == 3)=false:=by simpa using h1
  go_enter func224,ntmps224;go_wp2;go_ret;refine⟨ae ?_,rfl⟩;rw[tQ h1,Bool.false_or];rfl
theorem alZ(s t:ByteArray)(n1 m1 n2 m2:Int)(w:World) :
 Calls prog 227 #[.agg #[.string s,.int .i64 n1,.int .i64 m1],.agg #[.string t,.int .i64 n2,.int .i64 m2]] w
  λe w'=>e = .returned (.bool (decide (Np.qo ⟨s.data.toList,n1,m1⟩ ⟨t.data.toList,n2,m2⟩<0)))/\Below w.heap.size w w':=by
 rw[<-Np.Zu];have hw:∀ o o',Below w.heap.size w ((w.alloc o).alloc o'):=λo o'=>((vQ _ w).alloc (bQ _) _).alloc (by simp) _;have HW:=jq hw;clear hw;go_enter func227,ntmps227;go_wp2
 all_goals
  go_ret;refine⟨ae ?_,HW.out _ _⟩;go_light;simp_all [Np.JD,dQ]
end
end Go.Proofs.YtfnopgdcaanaiaaGreatDoor
namespace Go.Proofs
open YtfnopgdcaanaiaaGreatDoor
open Go.Shelf
def Tryz.laysM171_ren:Go.Shelf.Ren:=⟨fun | 171=>132 | 243=>211 | 246=>284 | 283=>285 | 284=>286 | 285=>287 | 286=>288 | 129=>260 | 317=>338 | 318=>339 | 319=>340 | 320=>341 | 337=>360 | 338=>361 | n=>n,fun | 3=>3 | 9=>9 | 2=>2 | 4=>4 | 171=>328 | 0=>0 | 53=>48 | 37=>196 | 5=>5 | 173=>330 | 212=>368 | 51=>92 | 20=>20 | 213=>369 | 46=>249 | 232=>384 | 233=>385 | n=>n,fun | 17=>1 | 18=>3 | 19=>4 | n=>n⟩
theorem Tryz.laysM171:Go.Proofs.LaysM.n171 Tryz.prog Tryz.laysM171_ren:={
 mixed:=by kernel_rfl
 f129:=Tryz.func260.trans (aLJ)
 f171:=Tryz.func132.trans (aLJ)
 f243:=Tryz.func211.trans (aLJ)
 f246:=Tryz.func284.trans (aLJ)
 f283:=Tryz.func285.trans (aLJ)
 f284:=Tryz.func286.trans (aLJ)
 f285:=Tryz.func287.trans (aLJ)
 f286:=Tryz.func288.trans (aLJ)
 f317:=Tryz.func338.trans (aLJ)
 f318:=Tryz.func339.trans (aLJ)
 f319:=Tryz.func340.trans (aLJ)
 f320:=Tryz.func341.trans (aLJ)
 f337:=Tryz.func360.trans (aLJ)
 f338:=Tryz.func361.trans (aLJ)
 t0:=Tryz.underlying0
 a0:=Tryz.isAgg0
 z0:=Tryz.sizeOf0
 v0:=Tryz.zeroValue0
 t2:=Tryz.underlying2
 a2:=Tryz.isAgg2
 z2:=Tryz.sizeOf2
 v2:=Tryz.zeroValue2
 t3:=Tryz.underlying3
 a3:=Tryz.isAgg3
 z3:=Tryz.sizeOf3
 v3:=Tryz.zeroValue3
 t4:=Tryz.underlying4
 a4:=Tryz.isAgg4
 z4:=Tryz.sizeOf4
 v4:=Tryz.zeroValue4
 t5:=Tryz.underlying5
 a5:=Tryz.isAgg5
 z5:=Tryz.sizeOf5
 v5:=Tryz.zeroValue5
 t9:=Tryz.underlying9
 a9:=Tryz.isAgg9
 z9:=Tryz.sizeOf9
 v9:=Tryz.zeroValue9
 t20:=Tryz.underlying20
 a20:=Tryz.isAgg20
 z20:=Tryz.sizeOf20
 v20:=Tryz.zeroValue20
 t37:=Tryz.underlying196
 a37:=Tryz.isAgg196
 z37:=Tryz.sizeOf196
 v37:=Tryz.zeroValue196
 t46:=Tryz.underlying249
 a46:=Tryz.isAgg249
 z46:=Tryz.sizeOf249
 v46:=Tryz.zeroValue249
 t51:=Tryz.underlying92
 a51:=Tryz.isAgg92
 z51:=Tryz.sizeOf92
 v51:=Tryz.zeroValue92
 t53:=Tryz.underlying48
 a53:=Tryz.isAgg48
 z53:=Tryz.sizeOf48
 v53:=Tryz.zeroValue48
 t171:=Tryz.underlying328
 a171:=Tryz.isAgg328
 z171:=Tryz.sizeOf328
 v171:=Tryz.zeroValue328
 t173:=Tryz.underlying330
 a173:=Tryz.isAgg330
 z173:=Tryz.sizeOf330
 v173:=Tryz.zeroValue330
 t212:=Tryz.underlying368
 a212:=Tryz.isAgg368
 z212:=Tryz.sizeOf368
 v212:=Tryz.zeroValue368
 t213:=Tryz.underlying369
 a213:=Tryz.isAgg369
 z213:=Tryz.sizeOf369
 t232:=Tryz.underlying384
 a232:=Tryz.isAgg384
 z232:=Tryz.sizeOf384
 v232:=Tryz.zeroValue384
 t233:=Tryz.underlying385
 a233:=Tryz.isAgg385
 z233:=Tryz.sizeOf385
 v233:=Tryz.zeroValue385
 g17:=by kernel_rfl
 g18:=by kernel_rfl
 g19:=by kernel_rfl
 i0:=by kernel_rfl
 i2:=by kernel_rfl
 i3:=by kernel_rfl
 i4:=by kernel_rfl
 i5:=by kernel_rfl
 i9:=by kernel_rfl
 i20:=by kernel_rfl
 i37:=by kernel_rfl
 i46:=by kernel_rfl
 i51:=by kernel_rfl
 i53:=by kernel_rfl
 i171:=by kernel_rfl
 i173:=by kernel_rfl
 i212:=by kernel_rfl
 i232:=by kernel_rfl
 i233:=by kernel_rfl
 m17:=by kernel_rfl
 m18:=by kernel_rfl
 m19:=by kernel_rfl }
open Go.RowKit Go.Sort Go.Lib in
theorem Tryz.strconv_Itoa(n:Int)(h0 : -9223372036854775808<=n)(h1:n<=9223372036854775807)(w:World)(BU:Lib.TabIs Tryz.prog w "internal/strconv.uint64pow10" .u64 Lib.pow10Tab) :
 Calls Tryz.prog 132 #[.int .i64 n] w λe w'=>e = .returned (.string ⟨(Lib.itoa n).toArray⟩)/\∃ k os,w'=grow (w.drewN k) os:=Any.strconv_Itoa Tryz.laysM171 n h0 h1 w BU
end Go.Proofs
namespace Go.Proofs.YtfnopgdcaanaiaaGreatDoor
open Go.Proofs.Tryz
section
open Go.RowKit Go.Sort Go.Lib
theorem V3(u:Nat)(BV:u<18446744073709551616)(w:World)(BU:Lib.TabIs prog w "internal/strconv.uint64pow10" .u64 Lib.pow10Tab) :
 Calls prog 212 #[.int .u64 u,.int .i64 10] w λe w'=>e = .returned (.string ⟨(Lib.decDigits u).toArray⟩)/\∃ k os,w'=grow (w.drewN k) os:=by
 have vW:∀ w,1<=u->Lib.TabIs prog w "internal/strconv.uint64pow10" .u64 Lib.pow10Tab->Calls prog 286 #[.int .u64 u] w λe w'=>e = .returned (.int .i64 (Lib.nDigits u))/\w'=w:=λw h1 h=>Any.internal_strconv_numDigits { Tryz.laysM171 with } u h1 BV w h;by_cases hs:u<100
 ·have Yi:∀ w,Calls prog 285 #[.int .i64 u] w λe w'=>e = .returned (.string ⟨(Lib.decDigits u).toArray⟩)/\w'=w:=λw=>Any.internal_strconv_small { Tryz.laysM171 with } u hs w;go_enter func212,ntmps212;go_wp2_with fail;refine (Yi _).mono ?_;rintro e w' ⟨rfl,rfl⟩;go_wp2_with fail;go_ret;exact⟨rfl,0,#[],by simp[World.drewN_zero]⟩
 ·have t8:1<=u:=by omega
  have aVJ:Lib.nDigits u<=20:=by have:=Lib.numDigits_eq u t8 BV;split at this <;> omega
  have ak:Lib.nDigits u<=24:=by omega
  have iO:prog.arrayLen 328=24:=by simp[Program.arrayLen,underlying328]
  have dy:∀ W,(Instr.sliceAt 328 (.pointer (some ⟨w.heap.size,0,none⟩)) none (some (.int .i64 (Lib.nDigits u:Int))) none).run prog W = .ok (.slice (some ⟨w.heap.size,0,none⟩) (Lib.nDigits u) 24) W:=λW=>by
   rw[run_sliceAt_array_h W 328 ⟨w.heap.size,0,none⟩ (by simp[Program.arrayLen,Program.elem,underlying328]) .i64 (Lib.nDigits u:Int) (by omega) (by rw[iO];omega)];go_simp
  have Hu:=Lib.holds_zero0 w 328 (Lib.nDigits u) (by omega);have Oa:Calls prog 287 #[.slice (some ⟨w.heap.size,0,none⟩) (Array.replicate (Lib.nDigits u) (0:UInt8)).size 24,.int .u64 u] (w.alloc (.cells Lib.zeros24 328)) λe w'=>e = .returned (.tuple #[])/\∃ (n v':Nat) (dk:Array UInt8),w'=(putRow (λ(b:UInt8)=>Value.int .u8 (b.toNat:Int)) (w.alloc (.cells Lib.zeros24 328)) w.heap.size 0 dk).drewN n/\FmtInv (Array.replicate (Lib.nDigits u) (0:UInt8)).size u 0 v' dk:=Any.internal_strconv_formatBase10 { Tryz.laysM171 with } w.heap.size 0 24 u (Array.replicate (Lib.nDigits u) 0) (w.alloc (.cells Lib.zeros24 328)) Hu (by rw[Array.size_replicate];exact Lib.lt_pow_nDigits u) BV (by rw[Array.size_replicate];omega);rw[Array.size_replicate] at Oa;have SR:=jq Hu;clear Hu iO;go_enter func212,ntmps212;go_wp2_with fail;refine (vW _ t8 (Lib.tabIs_alloc BU _)).mono ?_;rintro e w' ⟨rfl,rfl⟩;go_wp2_with fail;refine Oa.mono ?_;rintro e w' ⟨rfl,k,v',dk,rfl,hF⟩;have hcv:(convert 196 9 (.slice (some ⟨w.heap.size,0,none⟩) (Lib.nDigits u) 24)).run prog ((putRow (λ(b:UInt8)=>Value.int .u8 (b.toNat:Int)) (w.alloc (.cells Lib.zeros24 328)) w.heap.size 0 dk).drewN k) = .ok (.string ⟨(Lib.decDigits u).toArray⟩) ((putRow (λ(b:UInt8)=>Value.int .u8 (b.toNat:Int)) (w.alloc (.cells Lib.zeros24 328)) w.heap.size 0 dk).drewN k):=by
   have h:=run_convert_bytes_back (P:=prog) ((putRow (λ(b:UInt8)=>Value.int .u8 (b.toNat:Int)) (w.alloc (.cells Lib.zeros24 328)) w.heap.size 0 dk).drewN k) 196 9 5 ⟨w.heap.size,0,none⟩ 24 (Lib.decDigits u) underlying196 underlying5 underlying9 (λj hj=>by
    rw[Lib.row_is_numeral hF j hj,Lib.add_plain,World.cell?_drewN];exact cell?_putRow (λ(b:UInt8)=>Value.int .u8 (b.toNat:Int)) _ w.heap.size 0 _ dk SR.out (by rw[hF.size,Array.size_replicate]) j (by rw[hF.size];rw[Lib.decDigits_length] at hj;exact hj))
   rw[Lib.decDigits_length] at h;exact h
  go_wp2;go_ret;obtain⟨os,eo⟩:=Lib.fin_at w (.cells Lib.zeros24 328) dk k 0;exact⟨rfl,k,os,eo⟩
theorem V4(u:Nat)(BV:u<18446744073709551616)(w:World)(BU:Lib.TabIs prog w "internal/strconv.uint64pow10" .u64 Lib.pow10Tab) :
 Calls prog 133 #[.int .u64 u,.int .i64 10] w λe w'=>e = .returned (.string ⟨(Lib.decDigits u).toArray⟩)/\∃ k os,w'=grow (w.drewN k) os:=by
 go_enter func133,ntmps133;go_wp2_with fail;refine (V3 u BV w BU).mono ?_;rintro e w' ⟨rfl,k,os,rfl⟩;go_wp2_with fail;go_ret;exact⟨rfl,k,os,rfl⟩
end
end Go.Proofs.YtfnopgdcaanaiaaGreatDoor
