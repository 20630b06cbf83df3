/- Parts of the proof. No condition. -/
import Derived.Carry
import Derived.Deep.Slices
import Derived.SizedLaws
import Derived.WideShapes
import Derived.Test.YtbfbobfbgabjiaaGreatDoorP06
set_option linter.all false
set_option maxRecDepth 100000
set_option maxHeartbeats 8000000
namespace Go.Proofs.YtbfbobfbgabjiaaGreatDoor
open Go.Proofs.Tryz
section
open Go.RowKit
def xe(l:List UInt8)(j:Nat):Prop:=∃ c,l[j]?=some c/\(Np.qR c=true\/Np.nK c=true\/(c=45/\0<j/\j+1<l.length))
theorem Qx{c:UInt8}(h:Np.qR c=true\/Np.nK c=true):c≠45:=by rintro rfl; revert h; decide
theorem acK{l:List UInt8}(h:∀ j,j<l.length->xe l j):Np.cw l=(decide (1<=l.length)&&decide (l.length<=12)):=by
 have az:l.all Np.mN=true:=by
  rw[List.all_eq_true];intro c hc;obtain⟨j,hj,rfl⟩:=nQ.1 hc;obtain⟨c,e,ho⟩:=h j hj;rw[aQ hj] at e;simp only[Option.some.injEq] at e;rw[e];unfold Np.mN;rcases ho with ho | ho | ⟨ho,_⟩ <;> simp[ho]
 unfold Np.cw;rw[az,Bool.and_true];by_cases h1:1<=l.length
 ·have hh:∀ j,j<l.length->j=0\/j+1=l.length->l[j]?≠some 45:=by
   intro j hj he hc;obtain⟨c,e,ho⟩:=h j hj;rw[hc] at e;simp only[Option.some.injEq] at e;subst e;rcases ho with ho | ho | ⟨_,h2,h3⟩
   ·exact Qx (.inl ho) rfl
   ·exact Qx (.inr ho) rfl
   ·omega
  have h2:(l.head? == some 45)=false:=by rw[List.head?_eq_getElem?]; simpa using hh 0 (by omega) (.inl rfl)
  have h3:(l.getLast? == some 45)=false:=by rw[List.getLast?_eq_getElem?]; simpa using hh (l.length - 1) (by omega) (.inr (by omega))
  rw[h2,h3]; simp
 ·rw[tQ h1]; rfl
theorem Qg{l:List UInt8}{j:Nat}(hj:j<l.length)(h:¬ xe l j):Np.cw l=false:=by
 cases hl:Np.cw l with
 | false=>rfl
 | true=>
  exfalso;unfold Np.cw at hl;simp only[Bool.and_eq_true,Qa,Bool.not_eq_true',beq_eq_false_iff_ne] at hl;obtain⟨⟨⟨_,h2⟩,h3⟩,h4⟩:=hl;have hb:=List.all_eq_true.1 h4 l[j] (List.getElem_mem hj);refine h ⟨l[j],aQ hj,?_⟩;simp only[Np.mN,Bool.or_eq_true,beq_iff_eq] at hb;rcases hb with (hb | hb) | hb
  ·exact .inl hb
  ·exact .inr (.inl hb)
  ·refine .inr (.inr ⟨hb,?_,?_⟩)
   ·refine Nat.pos_of_ne_zero λe=>?_;subst e;rw[List.head?_eq_getElem?,aQ hj,hb] at h2;exact h2 rfl
   ·refine Nat.lt_of_not_le λe=>?_
    have:j=l.length - 1:=by omega
    rw[List.getLast?_eq_getElem?,<-this,aQ hj,hb] at h3;exact h3 rfl
theorem amQ(s:ByteArray)(k:Nat)(hk:k<s.size):xe s.data.toList k↔((97<=(s[k].toNat:Int)/\(s[k].toNat:Int)<=122)\/(48<=(s[k].toNat:Int)/\(s[k].toNat:Int)<=57)\/((s[k].toNat:Int)=45/\0<k/\k+1<s.size)):=by
 unfold xe;rw[yf s k hk];simp only[Option.some.injEq,exists_eq_left'];have tz:s[k]=45↔(s[k].toNat:Int)=45:=by
  constructor
  ·intro h; rw[h]; rfl
  ·intro h; apply UInt8.toNat_inj.1; have:s[k].toNat=45:=by omega
   rw[this]; rfl
 rw[tz,aT];unfold Np.qR Np.nK;simp only[Bool.and_eq_true,Qa,UInt8.le_iff_toNat_le];have e1:(97:UInt8).toNat=97:=rfl;have e2:(122:UInt8).toNat=122:=rfl;have e3:(48:UInt8).toNat=48:=rfl;have e4:(57:UInt8).toNat=57:=rfl;rw[e1,e2,e3,e4];omega
theorem axQ(s:ByteArray)(hs:s.size<=140737488355328)(w:World) :
 Calls prog 80 #[.string s] w λe w'=>e = .returned (.bool (Np.cw s.data.toList))/\w=w':=by
 go_enter func80,ntmps80;go_wp2;go_loop [3] (λi=>∃ k:Nat,k<=s.size/\i = .int .i64 k/\Hid (∀ j,j<k->xe s.data.toList j)) (λi=>s.size - (intOf i).toNat)
 case atStart=>exact⟨0,jQ _,rfl,jq (λj h=>by omega)⟩
 case round=>
  obtain⟨k,hk,rfl,HA⟩:=hrel;by_cases aa:k<s.size
  ·have hb:=zo s[k];have HN:=jq (amQ s k aa);have BY:xe s.data.toList k->∀ j,j<k+1->xe s.data.toList j:=λh j hj=>by
    by_cases e:j=k
    ·subst e; exact h
    ·exact HA.out j (by omega)
   have HX:=jq BY;clear BY;have bH:(0:Int)<=k:=by omega
   by_cases tz:(s[k].toNat:Int)=45
   ·have hE:((s[k].toNat:Int) == 45)=true:=by simp[tz]
    have FX:=jq tz;have Ex:(s[k].toNat:Int)<48:=by omega
    have a2Z:(s[k].toNat:Int)<97:=by omega
    clear tz;by_cases hin:0<k/\k+1<s.size
    ·obtain⟨h1,h2⟩:=hin;have h3:(0:Int)<k:=by omega
     have h4:(k:Int)<(s.size:Int) - 1:=by omega
     go_wp2;go_round
     case rel=>exact⟨k+1,by omega,by go_num,jq (HX.out (HN.out.2 (.inr (.inr ⟨FX.out,h1,h2⟩))))⟩
     case measure=>simp[intOf] <;> omega
    ·have HI:=jq hin;clear hin;go_wp2
     all_goals first
      | (go_ret
         exact⟨ae (Qg (by rw[aT]; exact aa) (λh=>by have:=HN.out.1 h; have:=HI.out; omega)).symm,rfl⟩)
      | (exfalso; have:=HI.out; omega)
   ·have hE:((s[k].toNat:Int) == 45)=false:=by simp[tz]
    have FX:=jq tz;clear tz;go_wp2
    all_goals first
     | (go_ret
        exact⟨ae (Qg (by rw[aT]; exact aa) (λh=>by have:=HN.out.1 h; have:=FX.out; omega)).symm,rfl⟩)
     | (go_round
        case rel=>exact⟨k+1,by omega,by go_num,jq (HX.out (HN.out.2 (by omega)))⟩
        case measure=>simp[intOf] <;> omega)
  ·have hf:Np.cw s.data.toList=(decide (1<=s.size)&&decide (s.size<=12)):=acK (λj hj=>HA.out j (by rw[aT] at hj; omega));have HF:=jq hf;clear hf;go_wp2
   all_goals
    go_ret;exact⟨ae (by rw[HF.out,Bool.eq_iff_iff]; simp; omega),rfl⟩
theorem ayJ(s:ByteArray)(hs:s.size<=140737488355328)(w:World) :
 Calls prog 228 #[.string s] w λe w'=>e = .returned (.bool (Np.kc s.data.toList))/\w=w':=by
 go_enter func228,ntmps228;go_wp2
 all_goals first
  | (go_ret; exact⟨ae (P6 s ‹_›).symm,rfl⟩)
  | (go_ret; exact⟨ae (P7 s ‹_›).symm,rfl⟩)
  | (go_ret; exact⟨ae (P8 s (by omega) ‹_›).symm,rfl⟩)
  | (have h:((s[s.size - 1].toNat:Int) == 32)=true:=by assumption
     go_ret;exact⟨ae (P9 s (by omega) (by simpa using h)).symm,rfl⟩)
  | skip
 ·have h2:(s.size:Int)<=40:=by assumption
  have h3:¬ (s[0].toNat:Int)=32:=by assumption
  have h4:((s[s.size - 1].toNat:Int) == 32)=false:=by assumption
  have H4:=jq h4;clear h4;have H3:=jq h3;go_loop [4] (λi=>∃ k:Nat,k<=s.size/\i = .int .i64 k/\(s.data.toList.take k).all Np.ot=true) (λi=>s.size - (intOf i).toNat)
  case atStart=>exact⟨0,jQ _,rfl,rfl⟩
  case round=>
   obtain⟨k,hk,rfl,ha⟩:=hrel;have HA:=jq ha;clear ha;by_cases aa:k<s.size
   ·have hb:=zo s[k];by_cases hf:(97<=(s[k].toNat:Int)/\(s[k].toNat:Int)<=122)\/(48<=(s[k].toNat:Int)/\(s[k].toNat:Int)<=57)\/(s[k].toNat:Int)=32
    ·have hl:Np.ot s[k]=true:=by rw[DS]; exact uQ hf
     have HL:=jq hl;clear hl;go_wp2
     all_goals first
      | (go_round
         case rel=>exact⟨k+1,by omega,by go_num,Ih s k aa _ HA.out HL.out⟩
         case measure=>simp[intOf] <;> omega)
      | (exfalso
         have hne:((s[k].toNat:Int) != 32)=true:=by assumption
         have wM:=bne_iff_ne.1 hne;omega)
    ·have hl:Np.ot s[k]=false:=by rw[DS]; exact tQ hf
     have HL:=jq hl;clear hl;go_wp2
     all_goals first
      | (go_ret; exact⟨ae (Qe s k aa HL.out).symm,rfl⟩)
      | (exfalso; omega)
      | (exfalso
         have hne:((s[k].toNat:Int) != 32)=false:=by assumption
         have wM:(s[k].toNat:Int)=32:=by simpa using hne
         omega)
   ·go_wp2;go_ret;exact⟨ae (Qf s (by omega) (by omega) H3.out (by simpa using H4.out) (by have:=HA.out; rwa [FG s k (by omega)] at this)).symm,rfl⟩
theorem Fp(s:ByteArray)(hs:s.size<=140737488355328)(w:World) :
 Calls prog 178 #[.string s] w λe w'=>e = .returned (.bool (Np.eK s.data.toList))/\w=w':=by
 by_cases h0:0<s.size
 ·have he:((s[0].toNat:Int) == 42)=Np.eK s.data.toList:=by
   unfold Np.eK;rw[BF s h0]
   have:=oP s[0] 42 (by decide)
   rw[Bool.eq_iff_iff] at this |-;simp only[beq_iff_eq,Qa,Option.some.injEq] at this |-;exact this.symm
  have HE:=jq he;clear he;go_enter func178,ntmps178;go_wp2
  all_goals
   go_ret;exact⟨ae HE.out,rfl⟩
 ·have he:Np.eK s.data.toList=false:=by
   have:s.data.toList = []:=rQ (by rw[aT]; omega)
   rw[this]; rfl
  have HE:=jq he;clear he;go_enter func178,ntmps178;go_wp2
  all_goals
   go_ret;exact⟨ae HE.out.symm,rfl⟩
theorem Q6(x lo hi:Int)(w:World) :
 Calls prog 176 #[.int .i64 x,.int .i64 lo,.int .i64 hi] w λe w'=>e = .returned (.bool (decide (lo<=x)&&decide (x<=hi)))/\w=w':=by
 by_cases h1:lo<=x
 all_goals
  go_enter func176,ntmps176;go_wp2;go_ret;exact⟨ae (by simp; omega),rfl⟩
theorem ayZ(x:Int)(w:World) :
 Calls prog 177 #[.int .i64 x] w λe w'=>e = .returned (.bool (decide (x=3)||decide (x=4)))/\w=w':=by
 by_cases h1:x=3
 ·subst h1;go_enter func177,ntmps177;go_wp2;go_ret;exact⟨rfl,rfl⟩
 ·have h2:(x == 3)=false:=by simpa using h1
  go_enter func177,ntmps177;go_wp2;go_ret;refine⟨ae ?_,rfl⟩;rw[tQ h1,Bool.false_or];rfl
theorem axZ(s t:ByteArray)(n1 m1 n2 m2:Int)(w:World) :
 Calls prog 180 #[.agg #[.string s,.int .i64 n1,.int .i64 m1],.agg #[.string t,.int .i64 n2,.int .i64 m2]] w
  λe w'=>e = .returned (.bool (decide (Np.qr ⟨s.data.toList,n1,m1⟩ ⟨t.data.toList,n2,m2⟩<0)))/\Below w.heap.size w w':=by
 rw[<-Np.agY];have hw:∀ o o',Below w.heap.size w ((w.alloc o).alloc o'):=λo o'=>((vQ _ w).alloc (bQ _) _).alloc (by simp) _;have HW:=jq hw;clear hw;go_enter func180,ntmps180;go_wp2
 all_goals
  go_ret;refine⟨ae ?_,HW.out _ _⟩;go_light;simp_all [Np.Ko,dQ]
end
namespace Np
theorem Im{c d:Copy}(h:¬ gE c d):¬ gE d c:=λ⟨h1,h2,h3,h4⟩=>h ⟨h1.symm,h2.symm,h4,h3⟩
theorem Ks{l:List Copy}{t:Int}{c:Copy} : c∈ki l t↔c∈l/\c.frm<=t/\t<c.til:=by
 unfold ki;rw[List.mem_filter];simp
theorem E6{l:List Copy}{a:List UInt8} : a∈apexes l↔∃ c∈l,c.zone.apex=a:=by
 unfold apexes;rw[(KL _).mem_iff,yW,List.mem_map]
theorem Vg{l m:List Copy}(h:∀ a,(∃ c∈l,c.zone.apex=a)↔∃ c∈m,c.zone.apex=a):apexes l=apexes m:=
 KU fd _ _ (KM (uq _)) (KM (uq _)) λa=>E6.trans ((h a).trans E6.symm)
theorem Ii(l:List Copy):(l.map (·.zone.apex)).foldl eD []=apexes l:=by
 have key:∀ (l o:List (List UInt8)),o.Pairwise (λa b=>aI a b<0)->(l.foldl eD o).Pairwise (λa b=>aI a b<0)/\∀ y,y∈l.foldl eD o↔y∈o\/y∈l:=by
  intro l
  induction l with
  | nil=>exact λo ho=>⟨ho,λy=>by simp⟩
  | cons a l ih=>
   intro o ho;obtain⟨h1,h2⟩:=QR o a ho;obtain⟨h3,h4⟩:=ih _ h1;exact⟨h3,λy=>by rw[List.foldl_cons,h4,h2,List.mem_cons,or_assoc]⟩
 obtain⟨h1,h2⟩:=key (l.map (·.zone.apex)) [] List.Pairwise.nil;refine KU fd _ _ h1 (KM (uq _)) λa=>?_;rw[h2,E6,List.mem_map];simp
def kp(a:Int)(c:Copy):List Copy:=if c.frm<a/\a<c.til then [⟨c.host,c.frm,a,c.zone⟩,⟨c.host,a,c.til,c.zone⟩] else [c]
def cU(l:List Copy)(k:Nat)(a:Int):List Copy:=
 match l[k]? with
 | none=>l
 | some c=>l.take k++kp a c++l.drop (k+1)
theorem DI{a:Int}{c d:Copy}(h:d∈kp a c):d.host=c.host/\d.zone=c.zone/\c.frm<=d.frm/\d.til<=c.til/\(c.frm<c.til->d.frm<d.til):=by
 unfold kp at h;split at h
 ·rename_i hc;simp only[List.mem_cons,Qh,or_false] at h;rcases h with rfl | rfl
  ·exact⟨rfl,rfl,Int.le_refl _,Int.le_of_lt hc.2,λ_=>hc.1⟩
  ·exact⟨rfl,rfl,Int.le_of_lt hc.1,Int.le_refl _,λ_=>hc.2⟩
 ·rw[List.mem_singleton] at h;subst h;exact⟨rfl,rfl,Int.le_refl _,Int.le_refl _,id⟩
theorem Ns{a t:Int}{c:Copy} : (∃ d∈kp a c,d.frm<=t/\t<d.til)↔c.frm<=t/\t<c.til:=by
 unfold kp;split
 ·rename_i hc;simp only[List.mem_cons,Qh,or_false];constructor
  ·rintro⟨d,rfl | rfl,h1,h2⟩ <;> dsimp only at h1 h2 <;> omega
  ·intro h;by_cases ht:t<a
   ·exact⟨_,.inl rfl,h.1,ht⟩
   ·exact⟨_,.inr rfl,by dsimp only; omega,h.2⟩
 ·simp
theorem V6(a t:Int)(c:Copy):(ki (kp a c) t).map im=(ki [c] t).map im:=by
 unfold kp;split
 ·rename_i hc;unfold ki;by_cases h1:c.frm<=t
  ·by_cases h2:t<c.til
   ·by_cases h3:t<a
    ·have h4:¬ a<=t:=by omega
     simp[h1,h2,h3,h4,im]
    ·have h4:a<=t:=by omega
     simp[h1,h2,h3,h4,im]
   ·have h3:¬ t<a:=by omega
    simp[h2,h3]
  ·have h3:¬ a<=t:=by omega
   simp[h1,h3]
 ·rfl
theorem Fz(a b:List Copy)(t:Int):ki (a++b) t=ki a t++ki b t:=List.filter_append _ _
theorem We{l:List Copy}{k:Nat}{c:Copy}(h:l[k]?=some c):l=l.take k ++ [c]++l.drop (k+1):=by
 obtain⟨hk,rfl⟩:=cQ.1 h;rw[List.append_assoc,List.singleton_append,List.getElem_cons_drop,List.take_append_drop]
theorem yc(l:List Copy)(k:Nat)(a:Int):cU l k a=l\/∃ p c q,l=p ++ [c]++q/\cU l k a=p++kp a c++q:=by
 unfold cU
 cases h:l[k]? with
 | none=>exact .inl rfl
 | some c=>exact .inr ⟨_,c,_,We h,rfl⟩
theorem Wc(l:List Copy)(k:Nat)(a t:Int):(ki (cU l k a) t).map im=(ki l t).map im:=by
 rcases yc l k a with e | ⟨p,c,q,e1,e2⟩
 ·rw[e]
 ·rw[e2,e1,Fz,Fz,Fz,Fz,List.map_append,List.map_append,List.map_append,List.map_append,V6]
theorem DK{l:List Copy}{k:Nat}{a:Int}{d:Copy}(h:d∈cU l k a):∃ c∈l,d.host=c.host/\d.zone=c.zone/\c.frm<=d.frm/\d.til<=c.til/\(c.frm<c.til->d.frm<d.til):=by
 rcases yc l k a with e | ⟨p,c,q,e1,e2⟩
 ·rw[e] at h;exact⟨d,h,rfl,rfl,Int.le_refl _,Int.le_refl _,id⟩
 ·rw[e2] at h;rcases List.mem_append.1 h with h | h
  ·rcases List.mem_append.1 h with h | h
   ·exact⟨d,by rw[e1]; simp[h],rfl,rfl,Int.le_refl _,Int.le_refl _,id⟩
   ·exact⟨c,by rw[e1]; simp,DI h⟩
  ·exact⟨d,by rw[e1]; simp[h],rfl,rfl,Int.le_refl _,Int.le_refl _,id⟩
theorem V9{l:List Copy}{k:Nat}{a t:Int}{P:Int->Zone->Prop} : (∃ d∈cU l k a,P d.host d.zone/\d.frm<=t/\t<d.til)↔∃ c∈l,P c.host c.zone/\c.frm<=t/\t<c.til:=by
 rcases yc l k a with e | ⟨p,c,q,e1,e2⟩
 ·rw[e]
 ·rw[e2,e1];constructor
  ·rintro⟨d,hd,hp,ht⟩;rcases List.mem_append.1 hd with hd | hd
   ·rcases List.mem_append.1 hd with hd | hd
    ·exact⟨d,by simp[hd],hp,ht⟩
    ·obtain⟨h1,h2,_⟩:=DI hd;rw[h1,h2] at hp;exact⟨c,by simp,hp,Ns.1 ⟨d,hd,ht⟩⟩
   ·exact⟨d,by simp[hd],hp,ht⟩
  ·rintro⟨d,hd,hp,ht⟩;rcases List.mem_append.1 hd with hd | hd
   ·rcases List.mem_append.1 hd with hd | hd
    ·exact⟨d,by simp[hd],hp,ht⟩
    ·rw[List.mem_singleton] at hd;subst hd;obtain⟨x,hx,EU⟩:=(Ns (a:=a)).2 ht;obtain⟨h1,h2,_⟩:=DI hx;exact⟨x,by simp[hx],by rw[h1,h2]; exact hp,EU⟩
   ·exact⟨d,by simp[hd],hp,ht⟩
theorem V8{l:List Copy}(h:gj l)(k:Nat)(a:Int):gj (cU l k a):=λd hd=>by
 obtain⟨c,hc,_,_,_,_,h5⟩:=DK hd;exact h5 (h c hc)
theorem Oo{l:List Copy}(hl:gj l){P:Int->Zone->Prop} : (∃ c∈l,P c.host c.zone)↔∃ t,∃ c∈l,P c.host c.zone/\c.frm<=t/\t<c.til:=
 ⟨λ⟨c,h1,h2⟩=>⟨c.frm,c,h1,h2,Int.le_refl _,hl c h1⟩,λ⟨_,c,h1,h2,_⟩=>⟨c,h1,h2⟩⟩
def jn(l m:List Copy):Prop:=∀ (P:Int->Zone->Prop) (t:Int),(∃ d∈l,P d.host d.zone/\d.frm<=t/\t<d.til)↔∃ c∈m,P c.host c.zone/\c.frm<=t/\t<c.til
theorem jn.zone{l m:List Copy}(h:jn l m)(hl:gj l)(hm:gj m){P:Int->Zone->Prop} : (∃ c∈l,P c.host c.zone)↔∃ c∈m,P c.host c.zone:=by
 rw[Oo hl,Oo hm];exact⟨λ⟨t,ht⟩=>⟨t,(h P t).1 ht⟩,λ⟨t,ht⟩=>⟨t,(h P t).2 ht⟩⟩
theorem jn.apexes{l m:List Copy}(h:jn l m)(hl:gj l)(hm:gj m):apexes l=apexes m:=
 Vg λa=>h.zone hl hm (P:=λ_ z=>z.apex=a)
theorem NR{l:List Copy}(hl:gj l)(zone:List UInt8)(k:Int):∀ s∈(l.filter λc=>decide (c.host=k)&&(c.zone.apex == zone)).map gV,s.frm<s.til:=λs hs=>by
 obtain⟨c,hc,rfl⟩:=List.mem_map.1 hs;exact hl c (List.mem_filter.1 hc).1
theorem P4{l:List Copy}{zone:List UInt8}{k t:Int} : inS ((l.filter λc=>decide (c.host=k)&&(c.zone.apex == zone)).map gV) t↔∃ c∈l,(c.host=k/\c.zone.apex=zone)/\c.frm<=t/\t<c.til:=by
 constructor
 ·rintro⟨s,hs,h1,h2⟩;obtain⟨c,hc,rfl⟩:=List.mem_map.1 hs;obtain⟨h3,h4⟩:=List.mem_filter.1 hc;simp only[Bool.and_eq_true,Qa,beq_iff_eq] at h4;exact⟨c,h3,h4,h1,h2⟩
 ·rintro⟨c,hc,⟨h3,h4⟩,h1,h2⟩;exact⟨gV c,List.mem_map.2 ⟨c,List.mem_filter.2 ⟨hc,by simp[h3,h4]⟩,rfl⟩,h1,h2⟩
theorem jn.serves{l m:List Copy}(h:jn l m)(hl:gj l)(hm:gj m)(zone:List UInt8)(k:Int):qW l zone k=qW m zone k:=
 Qz (NR hl zone k) (NR hm zone k) λt=>P4.trans ((h (λa z=>a=k/\z.apex=zone) t).trans P4.symm)
theorem jn.fresh{l m:List Copy}(h:jn l m)(hl:gj l)(hm:gj m)(zone:List UInt8)(s:Signed):eL (fX (dt l zone) s)=eL (fX (dt m zone) s):=by
 refine Qz (FI hl) (FI hm) λt=>Kh.trans (Iff.trans ?_ Kh.symm)
 have:=h (λ_ z=>z.apex=zone/\s∈z.sets) t
 simpa only[and_assoc] using this
theorem Ir(l:List Copy)(k:Nat)(a:Int):jn (cU l k a) l:=λ_ _=>V9
theorem Cw(a b:List Copy)(zone:List UInt8):dt (a++b) zone=dt a zone++dt b zone:=by
 unfold dt nj;rw[List.filter_append,List.flatMap_append]
theorem Fe(l:List Copy)(zone:List UInt8):(dt l zone).map (·.2)=(nj l zone).flatMap (·.zone.sets):=by
 unfold dt oN;rw[List.map_flatMap];congr 1;funext c;rw[List.map_map];exact List.map_id _
theorem Wd(l:List Copy)(k:Nat)(a:Int)(zone:List UInt8):cx ((dt (cU l k a) zone).map (·.2))=cx ((dt l zone).map (·.2)):=by
 rcases yc l k a with e | ⟨p,c,q,e1,e2⟩
 ·rw[e]
 ·rw[e2,e1,Cw,Cw,Cw,Cw,List.map_append,List.map_append,List.map_append,List.map_append];unfold kp;split
  ·by_cases hz:c.zone.apex=zone
   ·have h2:(dt [⟨c.host,c.frm,a,c.zone⟩,⟨c.host,a,c.til,c.zone⟩] zone).map (·.2)=c.zone.sets++c.zone.sets:=by rw[Fe]; simp[nj,hz]
    have h1:(dt [c] zone).map (·.2)=c.zone.sets:=by rw[Fe]; simp[nj,hz]
    rw[h1,h2,<-List.append_assoc,aKY _ _ _ (λx hx=>List.mem_append_right _ hx)]
   ·have h2:(dt [⟨c.host,c.frm,a,c.zone⟩,⟨c.host,a,c.til,c.zone⟩] zone).map (·.2) = []:=by rw[Fe]; simp[nj,hz]
    have h1:(dt [c] zone).map (·.2) = []:=by rw[Fe]; simp[nj,hz]
    rw[h1,h2]
  ·rfl
theorem Wb{l:List Copy}(hl:gj l)(k:Nat)(a:Int)(zone:List UInt8):pub (cU l k a) zone=pub l zone:=by
 unfold pub rP;rw[Wd];refine List.map_congr_left λs _=>?_;rw[(Ir l k a).fresh (V8 hl k a) hl]
theorem Nv(l:List Copy)(k:Nat)(a:Int):(cU l k a).length<=l.length+1:=by
 rcases yc l k a with e | ⟨p,c,q,e1,e2⟩
 ·rw[e]; omega
 ·rw[e2,e1]
  have:(kp a c).length<=2:=by unfold kp; split <;> simp
  simp only[List.length_append,List.length_singleton];omega
theorem Nu{a:Int}{c d x:Copy}(hd:d∈kp a c)(h:¬ gE c x):¬ gE d x:=λ⟨h1,h2,h3,h4⟩=>by
 obtain⟨k1,k2,k3,k4,_⟩:=DI hd;exact h ⟨k1 ▸ h1,k2 ▸ h2,by omega,by omega⟩
theorem V7{a:Int}(c:Copy):(kp a c).Pairwise λx y=>¬ gE x y:=by
 unfold kp;split
 ·refine List.pairwise_pair.2 λ⟨_,_,h3,h4⟩=>?_;dsimp only at h3 h4;omega
 ·exact List.pairwise_singleton _ _
def withC(h:Hist)(l:List Copy):Hist:=⟨h.hosts,l,h.anchor,h.hints,h.drift,h.stop⟩
theorem Nw{h:Hist}(v:VHist h)(k:Nat)(a:Int):VHist (withC h (cU h.copies k a)):=by
 refine⟨v.stop,v.drift,v.hosts,v.root,λd hd=>?_,?_⟩
 ·obtain⟨c,hc,h1,h2,h3,h4,h5⟩:=DK hd;obtain⟨a1,a2,a3⟩:=v.each c hc;exact⟨by rw[h1]; exact a1,⟨by omega,h5 a2.2.1,by have:=a2.2.2; show d.til<=h.stop; omega⟩,by rw[h2]; exact a3⟩
 ·show (cU h.copies k a).Pairwise _;have jW:=v.apart;rcases yc h.copies k a with e | ⟨p,c,q,e1,e2⟩
  ·rw[e]; exact jW
  ·rw[e1] at jW;rw[e2];obtain⟨b1,b2,b3⟩:=List.pairwise_append.1 jW;obtain⟨c1,_,c3⟩:=List.pairwise_append.1 b1;refine List.pairwise_append.2 ⟨List.pairwise_append.2 ⟨c1,V7 c,λx hx y hy=>Im (Nu hy (Im (c3 x hx c (by simp))))⟩,b2,λx hx y hy=>?_⟩;rcases List.mem_append.1 hx with hx | hx
   ·exact b3 x (List.mem_append_left _ hx) y hy
   ·exact Nu hx (b3 c (by simp) y hy)
theorem Q8(l:List Copy):jn l.reverse l:=λ_ _=>by simp only[List.mem_reverse]
theorem Q9{h:Hist}(v:VHist h):VHist (withC h h.copies.reverse):=
 ⟨v.stop,v.drift,v.hosts,v.root,λd hd=>by
  obtain⟨a1,a2,a3⟩:=v.each d (List.mem_reverse.1 hd);exact⟨a1,a2,a3⟩,by
  show h.copies.reverse.Pairwise _;rw[List.pairwise_reverse];exact v.apart.imp λhn=>Im hn⟩
theorem QO{l m:List Copy}(h:jn l m)(hl:gj l)(hm:gj m)(zone:List UInt8):(cx ((dt l zone).map (·.2))).Perm (cx ((dt m zone).map (·.2))):=by
 rw[List.perm_ext_iff_of_nodup (uq _) (uq _)];intro s;rw[E7,E7]
 have:=h.zone hl hm (P:=λ_ z=>z.apex=zone/\s∈z.sets)
 exact this
theorem arK{l m:List Copy}(h:jn l m)(hl:gj l)(hm:gj m)(zone:List UInt8):(pub l zone).length=(pub m zone).length:=by
 unfold pub;rw[Jm,Jm];exact (QO h hl hm zone).length_eq
theorem arX{l m:List Copy}(h:jn l m)(hl:gj l)(hm:gj m){zone:List UInt8}{x:Held}(hx:x∈pub l zone):x∈pub m zone:=by
 unfold pub rP at hx |-;obtain⟨s,hs,rfl⟩:=List.mem_map.1 hx;refine List.mem_map.2 ⟨s,(QO h hl hm zone).mem_iff.1 hs,?_⟩;rw[h.fresh hl hm]
theorem arZ{l:List Copy}(hl:gj l){zone:List UInt8}{s:Signed}{t:Int} : (∃ x∈pub l zone,x.signed=s/\inS x.fresh t)↔∃ c∈l,(c.zone.apex=zone/\s∈c.zone.sets)/\c.frm<=t/\t<c.til:=by
 constructor
 ·rintro⟨x,hx,rfl,ht⟩;obtain⟨_,_,_,_,h5⟩:=yV hl hx;obtain⟨c,hc,h1,h2,h3⟩:=(h5 t).1 ht;exact⟨c,hc,⟨h1,h2⟩,h3⟩
 ·rintro⟨c,hc,⟨h1,h2⟩,h3⟩;obtain⟨x,hx,rfl⟩:=arJ (zone:=zone) (s:=s) ⟨c,hc,h1,h2⟩;obtain⟨_,_,_,_,h5⟩:=yV hl hx;exact⟨x,hx,rfl,(h5 t).2 ⟨c,hc,h1,h2,h3⟩⟩
theorem asZ{h:Hist}(v:VHist h){zone:List UInt8}{t:Int}{x:Held}(hx:x∈pub h.copies zone):inS x.fresh t↔∃ p∈(oT h t).zones,p.zone.apex=zone/\x.signed∈p.zone.sets:=by
 obtain⟨_,_,_,_,h5⟩:=yV v.full hx;rw[h5];unfold oT;simp only[List.mem_map];constructor
 ·rintro⟨c,hc,h1,h2,h3⟩;exact⟨im c,⟨c,Ks.2 ⟨hc,h3⟩,rfl⟩,h1,h2⟩
 ·rintro⟨p,⟨c,hc,rfl⟩,h1,h2⟩;obtain⟨k1,k2⟩:=Ks.1 hc;exact⟨c,k1,h1,h2,k2⟩
theorem aOZ{h:Hist}(v:VHist h){zone:List UInt8}{t:Int}{p:Placed}(hp:p∈(oT h t).zones){s:Signed}(hs:s∈p.zone.sets)(hz:p.zone.apex=zone):∃ y∈pub h.copies zone,y.signed=s/\inS y.fresh t:=by
 unfold oT at hp;obtain⟨c,hc,rfl⟩:=List.mem_map.1 hp;obtain⟨k1,k2⟩:=Ks.1 hc;exact (arZ v.full).2 ⟨c,k1,⟨hz,hs⟩,k2⟩
theorem Xd{l:List Copy}(hl:gj l){zone:List UInt8}{x:Held}(hx:x∈pub l zone):x.fresh≠[]:=λe=>by
 obtain⟨_,_,_,⟨c,hc,h1,h2⟩,h5⟩:=yV hl hx
 have:=(h5 c.frm).2 ⟨c,hc,h1,h2,Int.le_refl _,hl c hc⟩
 rw[e] at this;exact qQ _ this
end Np
section
open Go.RowKit
open Classical in
noncomputable def bj(w:World)(M:Nat->Prop):World:={ w with heap:=w.heap.mapIdx λk o=>if M k then .cells #[] 0 else o }
theorem gU(w:World)(M:Nat->Prop):(bj w M).heap.size=w.heap.size:=by simp[bj]
theorem lF{w:World}{M:Nat->Prop}{k:Nat}(h:¬ M k):(bj w M).heap[k]?=w.heap[k]?:=by
 unfold bj;simp only[Array.getElem?_mapIdx,h,if_false]
 cases w.heap[k]? <;> rfl
theorem xo{w:World}{M:Nat->Prop}{k:Nat}(h:M k):(bj w M).heap[k]?=(w.heap[k]?).map λ_=>Obj.cells #[] 0:=by
 unfold bj;simp only[Array.getElem?_mapIdx,h,if_true]
theorem aDJ{w:World}{M:Nat->Prop}{p:Addr}{v:Value}(h:(bj w M).cell? p=some v):¬ M p.block/\w.cell? p=some v:=by
 by_cases hm:M p.block
 ·exfalso;unfold World.cell? at h;rw[xo hm] at h
  cases hh:w.heap[p.block]? with
  | none=>simp[hh] at h
  | some o=>simp[hh] at h
 ·refine⟨hm,?_⟩;rw[<-h];exact (iQ (w:=w) (lF hm)).symm
theorem aDK{w:World}{M:Nat->Prop}{p:Addr}(h:¬ M p.block):(bj w M).cell? p=w.cell? p:=iQ (w:=w) (lF h)
def eH{α:Type}(R:World->Nat->List Value->α->Prop):Prop:=∀ w (M M':Nat->Prop) B e x,(∀ k,M' k->M k)->R (bj w M) B e x->R (bj w M') B e x
theorem cR.sans{w:World}{M M':Nat->Prop}{b o:Nat}{e:List Value}(hM:∀ k,M' k->M k)(h:cR (bj w M) b o e):cR (bj w M') b o e:=λj v hj=>by
 obtain⟨h1,h2⟩:=aDJ (h j v hj);rw[aDK (λe=>h1 (hM _ e))];exact h2
theorem SlR.sans{α:Type}{R:World->Nat->List Value->α->Prop}{sz:Nat}{w:World}{M M':Nat->Prop}{B:Nat}{v:Value}{xs:List α}(hR:eH R)(hM:∀ k,M' k->M k)(h:SlR R sz (bj w M) B v xs):SlR R sz (bj w M') B v xs:=by
 obtain⟨A,c,hv,hc,hl,he⟩:=h;refine⟨A,c,hv,hc,hl,λi x hx=>?_⟩;obtain⟨b,o,e,hA,hB,br,hce,hr⟩:=he i x hx;exact⟨b,o,e,hA,hB,br,hce.sans hM,hR _ _ _ _ _ _ hM hr⟩
theorem Rm(w:World):bj w (λ_=>False)=w:=by
 unfold bj
 cases w
 simp only[World.mk.injEq,and_true];apply Array.ext_getElem?;intro i;simp only[Array.getElem?_mapIdx,if_false];rename_i heap _ _ _ _
 cases heap[i]? <;> rfl
theorem SlR.all{α:Type}{R:World->Nat->List Value->α->Prop}{sz:Nat}{w:World}{M:Nat->Prop}{B:Nat}{v:Value}{xs:List α}(hR:eH R)(h:SlR R sz (bj w M) B v xs):SlR R sz w B v xs:=by
 have:=h.sans (M':=λ_=>False) hR (λ_ e=>e.elim)
 rw[Rm] at this;exact this
theorem xl:eH cr:=λ_ _ _ _ _ _ _ h=>h
theorem zh:eH fj:=λ_ _ _ _ _ _ _ h=>h
theorem jc:eH bC:=λ_ _ _ _ _ _ hM ⟨s,v,u,h1,h2,h3,h4,h5⟩=>⟨s,v,u,h1,h2,h3.sans xl hM,h4.sans zh hM,h5⟩
theorem eH.all{α:Type}{R:World->Nat->List Value->α->Prop}(hR:eH R){w:World}{M:Nat->Prop}{B:Nat}{e:List Value}{x:α}(h:R (bj w M) B e x):R w B e x:=by
 have:=hR w M (λ_=>False) B e x (λ_ e=>e.elim) h
 rw[Rm] at this;exact this
structure Leaves'(M:Nat->Prop)(w w':World)(M':Nat->Prop):Prop where
 os:w'.os=w.os
 tape:w'.tape=w.tape
 output:w'.output=w.output
 size:w.heap.size<=w'.heap.size
 keep:∀ k,k<w.heap.size->¬ M k->¬ M' k/\w'.heap[k]?=w.heap[k]?
theorem Leaves'.refl(M:Nat->Prop)(w:World):Leaves' M w w M:=⟨rfl,rfl,rfl,bQ _,λ_ _ h=>⟨h,rfl⟩⟩
theorem Leaves'.trans{M M' M'':Nat->Prop}{a b c:World}(h:Leaves' M a b M')(k:Leaves' M' b c M''):Leaves' M a c M'':=
 ⟨k.os.trans h.os,k.tape.trans h.tape,k.output.trans h.output,yQ h.size k.size,λi hi hm=>by
  obtain⟨h1,h2⟩:=h.keep i hi hm;obtain⟨h3,h4⟩:=k.keep i (lQ hi h.size) h1;exact⟨h3,h4.trans h2⟩⟩
theorem Leaves'.of_below{M:Nat->Prop}{w w':World}(h:Below w.heap.size w w'):Leaves' M w w' M:=⟨h.os,h.tape,h.output,h.size,λk hk hm=>⟨hm,h.block k hk⟩⟩
theorem Leaves'.setCell(M:Nat->Prop)(w:World){p:Addr}(hp:M p.block)(v:Value):Leaves' M w (w.setCell p v) M:=
 ⟨rfl,rfl,rfl,by simp[World.setCell],λk _ hm=>⟨hm,wQ _ _ _ _ (λe=>hm (e ▸ hp))⟩⟩
theorem Leaves'.grown{M:Nat->Prop}{w w':World}{row:Option Nat}(hg:w.grownBy w' row)(hr:∀ k,row=some k->M k):Leaves' M w w' M:=
 ⟨hg.os,hg.tape,hg.output,hg.size,λk hk hm=>⟨hm,hg.block k hk (λe=>hm (hr k e.symm))⟩⟩
theorem Leaves'.more{M M' N:Nat->Prop}{w w':World}(h:Leaves' M w w' M')(hN:∀ k,N k->M' k\/w.heap.size<=k):Leaves' M w w' N:=
 ⟨h.os,h.tape,h.output,h.size,λk hk hm=>⟨λe=>(hN k e).elim (h.keep k hk hm).1 (by omega),(h.keep k hk hm).2⟩⟩
theorem Leaves'.read{α:Type}{R:World->Nat->List Value->α->Prop}(hk:dw R)(hs:eH R)(hm:dN R){M M':Nat->Prop}{w w':World}(h:Leaves' M w w' M'){e:List Value}{x:α}(hr:R (bj w M) w.heap.size e x):R (bj w' M') w'.heap.size e x:=by
 have hb:Below w.heap.size (bj w M) (bj w' λk=>M k\/M' k):=by
  refine⟨h.os,h.tape,h.output,by rw[gU,gU]; exact h.size,λk hk=>?_⟩;by_cases hM:M k
  ·rw[xo hM,xo (M:=λk=>M k\/M' k) (Or.inl hM)];have h1:k<w'.heap.size:=lQ hk h.size;rw[pQ hk,pQ h1];rfl
  ·obtain⟨h1,h2⟩:=h.keep k hk hM;rw[lF hM,lF (M:=λk=>M k\/M' k) (λe=>e.elim hM h1),h2]
 exact hm _ _ _ _ _ (hs _ _ _ _ _ _ (λk e=>Or.inr e) (hk _ _ _ _ _ hr hb)) h.size
def bU{α:Type}(R:World->Nat->List Value->α->Prop)(sz:Nat)(e:TypeId)(base:Nat)(M:Nat->Prop)(w:World)(v:Value)(xs:List α):Prop:=
 ∃ rows:List (List Value),rows.length=xs.length/\w.ownsRow base e sz v xs.length rows.flatten/\(∀ g,v.ownBlock=some g->M g)/\
   ∀ (i:Nat) (r:List Value) (x:α),rows[i]?=some r->xs[i]?=some x->r.length=sz/\R (bj w M) w.heap.size r x
theorem bU.nil{α:Type}{R:World->Nat->List Value->α->Prop}{sz:Nat}{e:TypeId}{base:Nat}{M:Nat->Prop}(w:World):bU (α:=α) R sz e base M w (.slice none 0 0) []:=
 ⟨[],rfl,⟨by simp,.inl ⟨rfl,rfl⟩⟩,(λg h=>by cases h),λi r x h=>by simp at h⟩
theorem bU.form{α:Type}{R:World->Nat->List Value->α->Prop}{sz:Nat}{e:TypeId}{base:Nat}{M:Nat->Prop}{w:World}{v:Value}{xs:List α}(h:bU R sz e base M w v xs):∃ A c,v = .slice A xs.length c:=by
 obtain⟨rows,h1,h2,h3⟩:=h;rcases h2.2 with ⟨rfl,h0⟩ | ⟨g,cap,cur,rfl,_⟩
 ·exact⟨none,0,by rw[h0]⟩
 ·exact⟨_,cap,rfl⟩
theorem bU.leaves{α:Type}{R:World->Nat->List Value->α->Prop}(hk:dw R)(hs:eH R)(hm:dN R){sz:Nat}{e:TypeId}{base:Nat}{M M':Nat->Prop}{w w':World}{v:Value}{xs:List α}(h:bU R sz e base M w v xs)(hl:Leaves' M w w' M')
 (ho:∀ g,v.ownBlock=some g->w'.heap[g]?=w.heap[g]?/\M' g):bU R sz e base M' w' v xs:=by
 obtain⟨rows,h1,h2,h3,h4⟩:=h;exact⟨rows,h1,fU h2 (λg hg=>(ho g hg).1),λg hg=>(ho g hg).2,λi r x hr hx=>⟨(h4 i r x hr hx).1,hl.read hk hs hm (h4 i r x hr hx).2⟩⟩
theorem bU.slr{α:Type}{R:World->Nat->List Value->α->Prop}(hs:eH R){sz:Nat}{e:TypeId}{base:Nat}{M:Nat->Prop}{w:World}{v:Value}{xs:List α}(h:bU R sz e base M w v xs)(hl:xs.length<=140737488355328):SlR R sz w w.heap.size v xs:=by
 obtain⟨rows,h1,h2,h3,h4⟩:=h;have hl':=bl.rows_len (w:=bj w M) (B:=w.heap.size) h1 h4;rcases h2.2 with ⟨rfl,h0⟩ | ⟨g,cap,cur,rfl,hb,hg,oH,_⟩
 ·have:xs = []:=rQ h0
  subst this;exact⟨none,0,rfl,by simp,by simp,λi x hx=>by simp at hx⟩
 ·refine⟨_,cap,rfl,oH,hl,λi x hx=>?_⟩;have hi:=(cQ.1 hx).1;have hr:=aQ (l:=rows) (i:=i) (by omega);obtain⟨h5,h6⟩:=h4 i _ x hr hx;refine⟨g,0,rows[i],rfl,(eQ.1 hg).1,h5,λj u hj=>?_,hs.all h6⟩;have h7:=h2.cells (g:=g) rfl _ _ (DR rows i j _ u hl' hr hj);have oC:(⟨g,0,none⟩:Addr).add (i * sz+j)=⟨g,0+i * sz+j,none⟩:=by unfold Addr.add; split <;> simp_all
  rw[oC] at h7;exact h7
def qp{α:Type}(R:World->Nat->List Value->α->Prop)(sz:Nat)(M:Nat->Prop)(w:World)(A:Option Addr)(ys:List α):Prop:=
 ∃ rows:List (List Value),rows.length=ys.length/\(∀ (i:Nat) (r:List Value) (x:α),rows[i]?=some r->ys[i]?=some x->r.length=sz/\R (bj w M) w.heap.size r x)/\(ys≠[]->∃ b o,A=some ⟨b,o,none⟩/\∀ j u,rows.flatten[j]?=some u->w.cell? ((⟨b,o,none⟩:Addr).add j)=some u)
theorem Ft{α:Type}{R:World->Nat->List Value->α->Prop}{sz:Nat}{M:Nat->Prop}{w:World}{b o:Nat}{r:List Value}{x:α}(hl:r.length=sz)(hr:R (bj w M) w.heap.size r x)(hc:cR w b o r):qp R sz M w (some ⟨b,o,none⟩) [x]:=by
 refine⟨[r],rfl,λi r' x' h1 h2=>?_,λ_=>⟨b,o,rfl,λj u hj=>?_⟩⟩
 ·cases i with
  | zero=>simp at h1 h2; subst h1; subst h2; exact⟨hl,hr⟩
  | succ i=>simp at h1
 ·have oC:(⟨b,o,none⟩:Addr).add j=⟨b,o+j,none⟩:=by unfold Addr.add; split <;> simp_all
  rw[oC];exact hc j u (by simpa using hj)
section
variable {P:Program}
theorem aAY{α:Type}{R:World->Nat->List Value->α->Prop}{sz:Nat}{M:Nat->Prop}(w:World)(t ty:TypeId)
 (base:Nat) (e:TypeId) (i:TypeInfo) (z:Value) (bytes:Nat) (ht:P.underlying t=some (.slice e)) (hi:P.info? e=some i) (hz:i.zero=some z) (l9:i.size=sz) (iE:i.bytes=bytes) (sD:z.cells.size=sz) (am:0<sz)
 (v:Value) (xs:List α) (hown:bU R sz e base M w v xs) (A:Option Addr) (c:Nat) (ys:List α) (eX:qp R sz M w A ys)
 (wP:∀ w B r y,R w B r y->∀ u∈r,u.oneCell'=true) (ku:xs.length+ys.length<=maxLen) (nw:(xs.length+ys.length) * bytes<=140737488355328) (ej:base<=w.heap.size) (hk:dw R) (hs:eH R) (hm:dN R) :
 ∃ v' w',(Builtin.append_ #[t,t] ty #[v,.slice A ys.length c]).run P w = .ok v' w'/\bU R sz e base (λk=>M k\/v'.ownBlock=some k) w' v' (xs++ys)/\w.grownBy w' v.ownBlock/\(v'.ownBlock=v.ownBlock\/v'.ownBlock=some w.heap.size):=by
 have rX:∀ (w':World) (v':Value) (rows rows':List (List Value)),w.grownBy w' v.ownBlock->(v'.ownBlock=v.ownBlock\/v'.ownBlock=some w.heap.size)->(∀ g,v.ownBlock=some g->M g)->rows.length=xs.length->(∀ (i:Nat) (r:List Value) (x:α),rows[i]?=some r->xs[i]?=some x->r.length=sz/\R (bj w M) w.heap.size r x)->rows'.length=ys.length->
  (∀ (i:Nat) (r:List Value) (x:α),rows'[i]?=some r->ys[i]?=some x->r.length=sz/\R (bj w M) w.heap.size r x)->w'.ownsRow base e sz v' (xs.length+ys.length) (rows.flatten++rows'.flatten)->bU R sz e base (λk=>M k\/v'.ownBlock=some k) w' v' (xs++ys):=by
  intro w' v' rows rows' hg hat yi h1 h2 h3 h4 h5;have wJ:Leaves' M w w' (λk=>M k\/v'.ownBlock=some k):=(Leaves'.grown hg yi).more (λk e=>by
   rcases e with e | e
   ·exact .inl e
   ·rcases hat with h | h
    ·exact .inl (yi k (h ▸ e))
    ·rw[h] at e; cases e; exact .inr (bQ _))
  refine⟨rows++rows',by simp[h1,h3],?_,λg hg'=>.inr hg',λj r y hr hy=>?_⟩
  ·rw[List.length_append,List.flatten_append]; exact h5
  ·rcases Nat.lt_or_ge j rows.length with aa | qC
   ·rw[List.getElem?_append_left aa] at hr;rw[List.getElem?_append_left (by omega)] at hy;obtain⟨h6,h7⟩:=h2 j r y hr hy;exact⟨h6,wJ.read hk hs hm h7⟩
   ·rw[oQ qC] at hr;rw[oQ (by omega),<-h1] at hy;obtain⟨h6,h7⟩:=h4 _ r y hr hy;exact⟨h6,wJ.read hk hs hm h7⟩
 obtain⟨rows,h1,h2,yi,h3⟩:=hown;obtain⟨rows',h4,h5,h6⟩:=eX;by_cases hy:ys = []
 ·subst hy;have l6:rows' = []:=rQ (by simpa using h4);subst l6
  cases A with
  | none=>
   have dp:=Ri (P:=P) base t ty e i sz ht hi v xs.length c rows.flatten h2;have hg:w.grownBy w v.ownBlock:=⟨rfl,rfl,rfl,bQ _,λ_ _ _=>rfl⟩;exact⟨v,w,dp,rX w v rows [] hg (.inl rfl) yi h1 h3 rfl (λj r y hr=>by simp at hr) (by simpa using h2),hg,.inl rfl⟩
  | some ad=>
   obtain⟨v',w',hr,ho',hg,_,hat⟩:=run_append_own_at (P:=P) w base t ty e i z sz bytes ht hi hz l9 iE sD am v xs.length rows.flatten h2 ad 0 c [] (by simp) (λj u hj=>by simp at hj) (λu hu=>by cases hu) (by simpa using ku) (by simpa using nw) ej;exact⟨v',w',hr,rX w' v' rows [] hg hat yi h1 h3 rfl (λj r y hr=>by simp at hr) (by simpa using ho'),hg,hat⟩
 ·obtain⟨b,o',rfl,hcell⟩:=h6 hy;have hl:=bl.rows_len (w:=bj w M) (B:=w.heap.size) h4 h5;obtain⟨v',w',hr,ho',hg,_,hat⟩:=run_append_own_at (P:=P) w base t ty e i z sz bytes ht hi hz l9 iE sD am v xs.length rows.flatten h2 ⟨b,o',none⟩ ys.length c rows'.flatten (by rw[ID rows' hl,h4]) hcell (λu hu=>by
   obtain⟨r,hr,JY⟩:=List.mem_flatten.1 hu;obtain⟨j,hj,rfl⟩:=nQ.1 hr;exact wP _ _ _ _ (h5 j _ _ (aQ hj) (aQ (by omega))).2 u JY) ku nw ej
  exact⟨v',w',hr,rX w' v' rows rows' hg hat yi h1 h3 h4 h5 ho',hg,hat⟩
theorem FP{α:Type}{R:World->Nat->List Value->α->Prop}{sz:Nat}{M:Nat->Prop}(w:World){o:Oper}{a:Act}{K:Act->World->Prop}{Q:Exit->Act->World->Prop}(s x:Operand)(t:TypeId)
 (ho:o.op = .call { callee:=.builtin .append,args:=#[s,x],argTypes:=#[t,t] })
 (base:Nat) (e:TypeId) (i:TypeInfo) (z:Value) (bytes:Nat) (ht:P.underlying t=some (.slice e)) (hi:P.info? e=some i) (hz:i.zero=some z) (l9:i.size=sz) (iE:i.bytes=bytes) (sD:z.cells.size=sz) (am:0<sz)
 (v:Value) (xs:List α) (hv:a.eval s=v) (hown:bU R sz e base M w v xs) (A:Option Addr) (c:Nat) (ys:List α) (hx:a.eval x = .slice A ys.length c) (eX:qp R sz M w A ys)
 (wP:∀ w B r y,R w B r y->∀ u∈r,u.oneCell'=true) (ku:xs.length+ys.length<=maxLen) (nw:(xs.length+ys.length) * bytes<=140737488355328) (ej:base<=w.heap.size) (hk:dw R) (hs:eH R) (hm:dN R)
 (h:∀ v' w',bU R sz e base (λk=>M k\/v'.ownBlock=some k) w' v' (xs++ys)->w.grownBy w' v.ownBlock->(v'.ownBlock=v.ownBlock\/v'.ownBlock=some w.heap.size)->K (a.put o.dst v') w'):o.wp P a w K Q:=by
 obtain⟨v',w',hr,h2,h4,h5⟩:=aAY (P:=P) w t o.type base e i z bytes ht hi hz l9 iE sD am v xs hown A c ys eX wP ku nw ej hk hs hm;unfold Oper.wp execOp;simp only[ho,resolve,invoke,builtin,Sem.run_bind,Sem.run_pure,Result.andThen_ok,List.map_toArray,List.map_cons,List.map_nil,hv,hx,hr];exact h v' w' h2 h4 h5
theorem zt{α:Type}{R:World->Nat->List Value->α->Prop}{sz:Nat}{M:Nat->Prop}(w:World){ops:Array Oper}{rest:List Oper}{o:Oper}{a:Act}{Q:Exit->Act->World->Prop}(iX:o.guard=none)(s x:Operand)(t:TypeId)
 (ho:o.op = .call { callee:=.builtin .append,args:=#[s,x],argTypes:=#[t,t] })
 (base:Nat) (e:TypeId) (i:TypeInfo) (z:Value) (bytes:Nat) (ht:P.underlying t=some (.slice e)) (hi:P.info? e=some i) (hz:i.zero=some z) (l9:i.size=sz) (iE:i.bytes=bytes) (sD:z.cells.size=sz) (am:0<sz)
 (v:Value) (xs:List α) (hv:a.eval s=v) (hown:bU R sz e base M w v xs) (A:Option Addr) (c:Nat) (ys:List α) (hx:a.eval x = .slice A ys.length c) (eX:qp R sz M w A ys)
 (wP:∀ w B r y,R w B r y->∀ u∈r,u.oneCell'=true) (ku:xs.length+ys.length<=maxLen) (nw:(xs.length+ys.length) * bytes<=140737488355328) (ej:base<=w.heap.size) (hk:dw R) (hs:eH R) (hm:dN R)
 (h:∀ v' w',bU R sz e base (λk=>M k\/v'.ownBlock=some k) w' v' (xs++ys)->w.grownBy w' v.ownBlock->(v'.ownBlock=v.ownBlock\/v'.ownBlock=some w.heap.size)->wpList P ops Q rest (a.put o.dst v') w'):wpList P ops Q (o::rest) a w:=by
 refine wpList_plain iX λK hK=>?_;exact FP w s x t ho base e i z bytes ht hi hz l9 iE sD am v xs hv hown A c ys hx eX wP ku nw ej hk hs hm (λv' w' h1 h2 h3=>hK _ _ (h v' w' h1 h2 h3))
end
end
namespace Np
def Stop(y:List UInt8):Prop:=y = []\/∃ c r,y=c::r/\sF c=false
def Lx(x:List UInt8)(ts:List Tok)(free:Bool):Prop:=
 ∀ (y:List UInt8) (p k:Nat),(free=true\/Stop y)->k<=2000->
   (k+ts.length<=2000->∃ ts',ts'.map DH=ts.map DH/\oM (x++y) p k=(ts'++(oM y (p+x.length) (k+ts.length)).1,(oM y (p+x.length) (k+ts.length)).2))/\
   (2000<k+ts.length->(oM (x++y) p k).2.1=2)
theorem Lx.weaken{x:List UInt8}{ts:List Tok}{f:Bool}(h:Lx x ts f):Lx x ts false:=λy p k hy hk=>
 h y p k (.inr (by rcases hy with hy | hy; cases hy; exact hy)) hk
theorem ahY:∀ (s:List UInt8) (c:UInt8),c∈s->c=46\/∃ x∈aR s,c∈x:=by
 intro s
 induction s with
 | nil=>intro c h; cases h
 | cons a r ih=>
  intro c hc;rw[aR];by_cases ha:a=46
  ·rw[Qb ha];rcases List.mem_cons.1 hc with e | e
   ·exact .inl (e.trans ha)
   ·rcases ih c e with h | ⟨x,hx,En⟩
    ·exact .inl h
    ·exact .inr ⟨x,mQ _ hx,En⟩
  ·rw[Qc ha];have hne:=qY r
   cases hr:aR r with
   | nil=>exact absurd hr hne
   | cons y ys=>
    rw[hr] at ih;rcases List.mem_cons.1 hc with e | e
    ·exact .inr ⟨a::y,by simp,by simp[e]⟩
    ·rcases ih c e with h | ⟨x,hx,En⟩
     ·exact .inl h
     ·rcases List.mem_cons.1 hx with rfl | hx
      ·exact .inr ⟨a::x,by simp,by simp[En]⟩
      ·exact .inr ⟨x,by simp[hx],En⟩
theorem aeZ{c:UInt8}(h:mN c=true):sF c=true:=by
 unfold mN at h;have hl:∀ c:UInt8,qR c=true\/nK c=true->cls c=3:=by
  intro c h;have hne:¬ (c=32\/c=9\/c=10)/\c≠35:=by
   constructor
   ·rintro (rfl | rfl | rfl) <;> revert h <;> decide
   ·rintro rfl; revert h; decide
  unfold cls;rw[Qc hne.1,Qc hne.2,Qb (by rcases h with h | h <;> simp[h])]
 simp only[Bool.or_eq_true,beq_iff_eq] at h;unfold sF;rcases h with h | h
 ·rw[hl c h]; rfl
 ·subst h; decide
theorem ahZ{c:UInt8}(h:qR c=true\/nK c=true):cls c=3:=by
 have hne:¬ (c=32\/c=9\/c=10)/\c≠35:=by
  constructor
  ·rintro (rfl | rfl | rfl) <;> revert h <;> decide
  ·rintro rfl; revert h; decide
 unfold cls;rw[Qc hne.1,Qc hne.2,Qb (by rcases h with h | h <;> simp[h])]
theorem aeJ{x:List UInt8}(h:cw x=true\/x = [42]):∀ c∈x,sF c=true:=by
 rcases h with h | rfl
 ·unfold cw at h;simp only[Bool.and_eq_true] at h;exact λc hc=>aeZ (List.all_eq_true.1 h.2 c hc)
 ·intro c hc; simp at hc; subst hc; decide
theorem aeK{x:List UInt8}(h:cw x=true\/x = [42]):∃ c r,x=c::r/\cls c=3:=by
 rcases h with h | rfl
 ·unfold cw at h;simp only[Bool.and_eq_true,Qa,Bool.not_eq_true',beq_eq_false_iff_ne] at h
  cases x with
  | nil=>simp at h
  | cons c r=>
   refine⟨c,r,rfl,ahZ ?_⟩;have h1:=List.all_eq_true.1 h.2 c (by simp);have h2:=h.1.1.2;simp only[List.head?_cons,ne_eq,Option.some.injEq] at h2;simp only[mN,Bool.or_eq_true,beq_iff_eq] at h1;rcases h1 with h1 | h1
   ·exact h1
   ·exact absurd h1 h2
 ·exact⟨42,[],rfl,by decide⟩
theorem KS:∀ (s:List UInt8),∃ h t,aR s=h::t/\(∀ c r,h=c::r->∃ r',s=c::r'):=by
 intro s
 cases s with
 | nil=>exact⟨[],[],rfl,λc r h=>by cases h⟩
 | cons a r=>
  rw[aR];by_cases ha:a=46
  ·rw[Qb ha]; exact⟨[],_,rfl,λc r h=>by cases h⟩
  ·rw[Qc ha];have hne:=qY r
   cases hr:aR r with
   | nil=>exact absurd hr hne
   | cons x xs=>exact⟨a::x,xs,rfl,λc r' h=>by cases h; exact⟨_,rfl⟩⟩
theorem yX{s:List UInt8}(h:aD s=true):s.length<=60/\(s = [46]\/∃ c r,s=c::r/\cls c=3/\s.all sF=true):=by
 unfold aD at h;split at h
 ·rename_i e; subst e; exact⟨by decide,.inl rfl⟩
 ·split at h
  ·cases h
  ·rename_i DW;have hg:=NW _ _ _ h;have hl:∀ x∈aR s,cw x=true\/x = [42]:=λx hx=>(hg x (List.mem_reverse.2 hx)).symm;obtain⟨a,t,e1,e2⟩:=KS s;obtain⟨c,r,rfl,hc⟩:=aeK (hl a (by rw[e1]; simp));obtain⟨r',rfl⟩:=e2 c r rfl;refine⟨by omega,.inr ⟨c,r',rfl,hc,List.all_eq_true.2 λb hb=>?_⟩⟩;rcases ahY _ b hb with rfl | ⟨x,hx,ek⟩
   ·decide
   ·exact aeJ (hl x hx) b ek
theorem NC{k:Nat}(h:k<10):nK (UInt8.ofNat (48+k))=true/\(UInt8.ofNat (48+k)).toNat=48+k:=by
 have:k=0\/k=1\/k=2\/k=3\/k=4\/k=5\/k=6\/k=7\/k=8\/k=9:=by omega
 rcases this with rfl | rfl | rfl | rfl | rfl | rfl | rfl | rfl | rfl | rfl <;> exact⟨by decide,by decide⟩
theorem Iv(n:Nat):(nk n).all nK=true/\nk n≠[]/\dec (nk n)=n/\(1<=n->(nk n).head?≠some 48)/\(n<10->(nk n).length=1):=by
 induction n using Nat.strongRecOn with
 | ind n ih=>
  rw[nk];split
  ·rename_i h;have hd:=NC h;refine⟨by rw[List.all_cons,hd.1]; rfl,by simp,by show 10 * 0+((UInt8.ofNat (48+n)).toNat - 48)=n; rw[hd.2]; omega,λh1=>?_,λ_=>rfl⟩;simp only[List.head?_cons,ne_eq,Option.some.injEq];intro e
   have:=Qd UInt8.toNat e
   rw[hd.2] at this;simp at this; omega
  ·rename_i h;obtain⟨i1,i2,i3,i4,_⟩:=ih (n / 10) (by omega);have hd:=NC (k:=n % 10) (by omega);refine⟨by rw[List.all_append,i1,List.all_cons,hd.1]; rfl,by simp,?_,λ_=>?_,λh2=>absurd h2 h⟩
   ·rw[Wj,i3,hd.2]; omega
   ·rw[Ys i2]; exact i4 (by omega)
def cM(n:Int):List UInt8:=nk n.toNat
def tu(d:Datum):List (List UInt8):=[d.text,cM d.n,cM d.m]
def sJ(g:Sig):List (List UInt8):=[g.zone,cM g.key,cM g.alg,cM g.frm,cM g.til,cM g.sum]
def Ba(s:Signed):List (List UInt8):=[s.set.name,cM s.set.type,cM s.set.life,cM s.set.data.length]++(s.set.data.flatMap tu++s.sigs.flatMap sJ)
def gt(l:List (List UInt8)):List UInt8:=l.flatMap λf=>f ++ [47]
def jC(s:Signed):List UInt8:=gt (Ba s)
theorem Ru:∀ (x y r q:List UInt8),47∉x->47∉y->x++47::r=y++47::q->x=y/\r=q
 | [],[],r,q,_,_,h=>⟨rfl,by simpa using h⟩
 | [],b::y,r,q,_,hy,h=>by
   simp only[List.nil_append,List.cons_append,List.cons.injEq] at h;exact absurd (h.1 ▸ List.mem_cons_self) hy
 | a::x,[],r,q,hx,_,h=>by
   simp only[List.nil_append,List.cons_append,List.cons.injEq] at h;exact absurd (h.1 ▸ List.mem_cons_self) hx
 | a::x,b::y,r,q,hx,hy,h=>by
   simp only[List.cons_append,List.cons.injEq] at h;obtain⟨h1,h2⟩:=Ru x y r q (λhm=>hx (mQ _ hm)) (λhm=>hy (mQ _ hm)) h.2;exact⟨by rw[h.1,h1],h2⟩
theorem AY(f:List UInt8)(l:List (List UInt8)):gt (f::l)=f++47::gt l:=by simp[gt]
theorem NE:∀ (a b:List (List UInt8)),(∀ x∈a,47∉x)->(∀ x∈b,47∉x)->gt a=gt b->a=b
 | [],[],_,_,_=>rfl
 | [],f::b,_,_,h=>by rw[AY] at h; simp[gt] at h
 | f::a,[],_,_,h=>by rw[AY] at h; simp[gt] at h
 | f::a,g::b,ha,hb,h=>by
   rw[AY,AY] at h;obtain⟨h1,h2⟩:=Ru f g _ _ (ha f (by simp)) (hb g (by simp)) h;rw[h1,NE a b (λx hx=>ha x (mQ _ hx)) (λx hx=>hb x (mQ _ hx)) h2]
theorem qs{a b:Int}(ha:0<=a)(hb:0<=b)(h:cM a=cM b):a=b:=by
 have h1:=(Iv a.toNat).2.2.1;have h2:=(Iv b.toNat).2.2.1;unfold cM at h;rw[h] at h1;omega
theorem qu(a:Int):47∉cM a:=λhm=>by
 have h1:=(Iv a.toNat).1
 have:=List.all_eq_true.1 h1 47 hm
 revert this; decide
structure Plain47(s:Signed):Prop where
 name:47∉s.set.name
 type:0<=s.set.type
 life:0<=s.set.life
 data:∀ d∈s.set.data,47∉d.text/\0<=d.n/\0<=d.m
 sigs:∀ g∈s.sigs,47∉g.zone/\0<=g.key/\0<=g.alg/\0<=g.frm/\0<=g.til/\0<=g.sum
theorem Plain47.fields{s:Signed}(h:Plain47 s):∀ x∈Ba s,47∉x:=λx hx=>by
 unfold Ba at hx;rcases List.mem_append.1 hx with hx | hx
 ·simp only[List.mem_cons,Qh,or_false] at hx;rcases hx with rfl | rfl | rfl | rfl
  ·exact h.name
  ·exact qu _
  ·exact qu _
  ·exact qu _
 ·rcases List.mem_append.1 hx with hx | hx
  ·obtain⟨d,hd,hx⟩:=List.mem_flatMap.1 hx;simp only[tu,List.mem_cons,Qh,or_false] at hx;rcases hx with rfl | rfl | rfl
   ·exact (h.data d hd).1
   ·exact qu _
   ·exact qu _
  ·obtain⟨g,hg,hx⟩:=List.mem_flatMap.1 hx;simp only[sJ,List.mem_cons,Qh,or_false] at hx;rcases hx with rfl | rfl | rfl | rfl | rfl | rfl
   ·exact (h.sigs g hg).1
   ·exact qu _
   ·exact qu _
   ·exact qu _
   ·exact qu _
   ·exact qu _
theorem Ny:∀ (a b:List Datum) (r q:List (List UInt8)),a.length=b.length->(∀ d∈a,0<=d.n/\0<=d.m)->(∀ d∈b,0<=d.n/\0<=d.m)->a.flatMap tu++r=b.flatMap tu++q->a=b/\r=q
 | [],[],r,q,_,_,_,h=>⟨rfl,by simpa using h⟩
 | [],_::_,_,_,hl,_,_,_=>by simp at hl
 | _::_,[],_,_,hl,_,_,_=>by simp at hl
 | x::a,y::b,r,q,hl,ha,hb,h=>by
   simp only[List.flatMap_cons,tu,List.cons_append,List.nil_append,List.cons.injEq] at h;obtain⟨h1,h2,h3,h4⟩:=h;obtain⟨h5,h6⟩:=Ny a b r q (by simpa using hl) (λd hd=>ha d (mQ _ hd)) (λd hd=>hb d (mQ _ hd)) h4;have hx:=ha x (by simp);have hy:=hb y (by simp);have e:x=y:=by
    obtain⟨_,_,_⟩:=x;obtain⟨_,_,_⟩:=y;simp only at h1 h2 h3 hx hy;rw[h1,qs hx.1 hy.1 h2,qs hx.2 hy.2 h3]
   exact⟨by rw[e,h5],h6⟩
theorem Rs:∀ (a b:List Sig),(∀ g∈a,0<=g.key/\0<=g.alg/\0<=g.frm/\0<=g.til/\0<=g.sum)->(∀ g∈b,0<=g.key/\0<=g.alg/\0<=g.frm/\0<=g.til/\0<=g.sum)->a.flatMap sJ=b.flatMap sJ->a=b
 | [],[],_,_,_=>rfl
 | [],_::_,_,_,h=>by simp[sJ] at h
 | _::_,[],_,_,h=>by simp[sJ] at h
 | x::a,y::b,ha,hb,h=>by
   simp only[List.flatMap_cons,sJ,List.cons_append,List.nil_append,List.cons.injEq] at h;obtain⟨h1,h2,h3,h4,h5,h6,h7⟩:=h;have hx:=ha x (by simp);have hy:=hb y (by simp);have e:x=y:=by
    obtain⟨_,_,_,_,_,_⟩:=x;obtain⟨_,_,_,_,_,_⟩:=y;simp only at h1 h2 h3 h4 h5 h6 hx hy;rw[h1,qs hx.1 hy.1 h2,qs hx.2.1 hy.2.1 h3,qs hx.2.2.1 hy.2.2.1 h4,qs hx.2.2.2.1 hy.2.2.2.1 h5,qs hx.2.2.2.2 hy.2.2.2.2 h6]
   rw[e,Rs a b (λg hg=>ha g (mQ _ hg)) (λg hg=>hb g (mQ _ hg)) h7]
theorem Qk{s t:Signed}(hs:Plain47 s)(ht:Plain47 t)(h:jC s=jC t):s=t:=by
 have h:=NE _ _ hs.fields ht.fields h;unfold Ba at h;simp only[List.cons_append,List.nil_append,List.cons.injEq] at h;obtain⟨h1,h2,h3,h4,h5⟩:=h;have e4:=qs (by omega) (by omega) h4;obtain⟨h6,h7⟩:=Ny _ _ _ _ (by omega) (λd hd=>(hs.data d hd).2) (λd hd=>(ht.data d hd).2) h5;have h8:=Rs _ _ (λg hg=>(hs.sigs g hg).2) (λg hg=>(ht.sigs g hg).2) h7;have e2:=qs hs.type ht.type h2;have e3:=qs hs.life ht.life h3;obtain⟨⟨_,_,_,_⟩,_⟩:=s;obtain⟨⟨_,_,_,_⟩,_⟩:=t;simp only at h1 e2 e3 h6 h8;rw[h1,e2,e3,h6,h8]
def x7(s:Signed):Prop:=∀ g∈s.sigs,0<=g.sum/\g.sum<18446744073709551616
def lj(h:Hist):Prop:=∀ c∈h.copies,∀ s∈c.zone.sets,x7 s
theorem aBX{c:UInt8}(h:sF c=true):c≠47:=by rintro rfl; revert h; decide
theorem Fa{l:List UInt8}(h:aD l=true):47∉l:=λhm=>by
 obtain⟨_,rfl | ⟨c,r,rfl,_,hr⟩⟩:=yX h
 ·revert hm; decide
 ·exact aBX (List.all_eq_true.1 hr 47 hm) rfl
theorem Xa{l:List UInt8}(h:kc l=true):47∉l:=λhm=>by
 unfold kc at h;simp only[Bool.and_eq_true] at h
 have:=List.all_eq_true.1 h.2 47 hm
 revert this; decide
theorem aJX{k:Int}{l:List UInt8}(h:xq k l=true):47∉l:=by
 unfold xq at h;split at h
 ·simp only[Bool.and_eq_true] at h; exact Fa h.1
 ·split at h
  ·exact Fa h
  ·split at h
   ·exact Xa h
   ·have:l = []:=by simpa using h
    rw[this]; simp
theorem Rf(k:Int):0<=(bX k).leastN/\0<=(bX k).leastM:=by
 unfold bX;generalize k.toNat=n;by_cases h:n<9
 ·have:∀ m,m<9->0<=(rules.getD m ⟨0,0,0,0,0,false,false,false⟩).leastN/\0<=(rules.getD m ⟨0,0,0,0,0,false,false,false⟩).leastM:=by decide
  exact this n h
 ·have e:rules[n]?=none:=List.getElem?_eq_none (by simp[rules]; omega);rw[List.getD_eq_getElem?_getD,e];decide
theorem Wi{k:Int}{d:Datum}(h:kj (bX k) d=true):47∉d.text/\0<=d.n/\0<=d.m:=by
 unfold kj at h;simp only[Bool.and_eq_true,Qa] at h;obtain⟨⟨⟨⟨h1,_⟩,h2,_⟩,_⟩,h3⟩:=h
 have:=Rf k
 exact⟨aJX h3,by omega,by omega⟩
theorem Lj{z:Zone}(v:VZone z):aD z.apex=true/\∀ x∈z.sets,dX x.set=true:=by
 have h:=v.right;unfold eN at h;simp only[Bool.and_eq_true] at h;exact⟨h.1.1,DT h.2⟩
theorem Se{z:Zone}(v:VZone z){x:Signed}(hx:x∈z.sets)(hs:x7 x):Plain47 x:=by
 obtain⟨ha,hv⟩:=Lj v;obtain⟨h1,h2,h3,h4,h5,h6,h7,h8⟩:=zq (hv x hx);refine⟨Fa h1,by omega,h4,λd hd=>Wi (IH h8 d hd),λg hg=>?_⟩;obtain⟨i,hi⟩:=List.mem_iff_getElem?.1 hg
 have:=(v.form x hx).2 i g hi
 exact⟨by rw[this.zone]; exact Fa ha,by have:=this.key; omega,by have:=this.alg; omega,this.win.1,by have:=this.win; omega,(hs g hg).1⟩
def nL(us:List Signed):List (List UInt8×Value):=us.zipIdx.map λp=>(jC p.1,.int .i64 ((p.2:Nat):Int))
theorem adX(us:List Signed)(s:Signed):nL (us ++ [s])=nL us ++ [(jC s,.int .i64 ((us.length:Nat):Int))]:=by
 unfold nL;rw[List.zipIdx_append,List.map_append];simp
theorem Ql:∀ (us:List Signed) (n:Nat) (s:Signed),Plain47 s->(∀ x∈us,Plain47 x)->s∉us->((us.zipIdx n).map λp=>(jC p.1,Value.int .i64 ((p.2:Nat):Int))).lookup (jC s)=none
 | [],_,_,_,_,_=>rfl
 | x::us,n,s,hs,hu,hn=>by
   rw[List.zipIdx_cons,List.map_cons,List.lookup_cons];have hne:(jC s == jC x)=false:=by
    rw[beq_eq_false_iff_ne];intro e;exact hn (by rw[Qk hs (hu x (by simp)) e]; simp)
   rw[hne];exact Ql us (n+1) s hs (λy hy=>hu y (mQ _ hy)) (λh=>hn (mQ _ h))
theorem adK{us:List Signed}{s:Signed}(hs:Plain47 s)(hu:∀ x∈us,Plain47 x)(hn:s∉us):(nL us).lookup (jC s)=none:=Ql us 0 s hs hu hn
theorem Qm:∀ (us:List Signed) (n:Nat) (s:Signed) (i:Nat),Plain47 s->(∀ x∈us,Plain47 x)->us.Nodup->us[i]?=some s->((us.zipIdx n).map λp=>(jC p.1,Value.int .i64 ((p.2:Nat):Int))).lookup (jC s)=some (.int .i64 ((n+i:Nat):Int))
 | [],_,_,_,_,_,_,h=>by simp at h
 | x::us,n,s,i,hs,hu,hd,h=>by
   rw[List.zipIdx_cons,List.map_cons,List.lookup_cons]
   cases i with
   | zero=>
    have e:x=s:=by simpa using h
    subst e;simp
   | succ i=>
    have h':us[i]?=some s:=by simpa using h
    have hne:(jC s == jC x)=false:=by
     rw[beq_eq_false_iff_ne];intro e
     have:=Qk hs (hu x (by simp)) e
     subst this;exact (List.nodup_cons.1 hd).1 (gQ h')
    rw[hne]
    have:=Qm us (n+1) s i hs (λy hy=>hu y (mQ _ hy)) (List.nodup_cons.1 hd).2 h'
    rw[show n+(i+1)=n+1+i by omega];exact this
theorem adY{us:List Signed}{s:Signed}{i:Nat}(hs:Plain47 s)(hu:∀ x∈us,Plain47 x)(hd:us.Nodup)(h:us[i]?=some s):(nL us).lookup (jC s)=some (.int .i64 ((i:Nat):Int)):=by
 have:=Qm us 0 s i hs hu hd h
 rwa [Nat.zero_add] at this
def ew(ps:List (Span×Signed)):List (Signed×List Span):=(cx (ps.map (·.2))).map λs=>(s,fX ps s)
theorem aiQ(ps:List (Span×Signed)):(ew ps).map (·.1)=cx (ps.map (·.2)):=by
 unfold ew;rw[List.map_map];exact List.map_id'' (λ_=>rfl) _
theorem aiZ(f:List Span->List Span)(zone:List UInt8)(ps:List (Span×Signed)):rP f zone ps=(ew ps).map λx=>⟨zone,x.1,f x.2,[]⟩:=by
 unfold rP ew;rw[List.map_map];rfl
theorem aiK{ps:List (Span×Signed)}{p:Span×Signed}(h:p.2∉cx (ps.map (·.2))):ew (ps ++ [p])=ew ps ++ [(p.2,[p.1])]:=by
 have hn:p.2∉ps.map (·.2):=λhm=>h (yW.2 hm);unfold ew;rw[List.map_append,List.map_singleton,K5,jR,Qc h,List.map_append];congr 1
 ·refine List.map_congr_left λs hs=>?_;rw[FH,Qc (show ¬ p.2=s from λe=>h (by rw[e]; exact hs))]
 ·simp[FH,aKZ hn]
theorem aiX{ps:List (Span×Signed)}{p:Span×Signed}{i:Nat}(h:(cx (ps.map (·.2)))[i]?=some p.2):ew (ps ++ [p])=(ew ps).set i (p.2,fX ps p.2 ++ [p.1]):=by
 obtain⟨hi,he⟩:=cQ.1 h;have hm:p.2∈cx (ps.map (·.2)):=by rw[<-he]; exact List.getElem_mem _
 have pJ:=uq (ps.map (·.2));have hu:cx ((ps ++ [p]).map (·.2))=cx (ps.map (·.2)):=by rw[List.map_append,List.map_singleton,K5,Ig hm]
 refine List.ext_getElem? λj=>?_;rw[List.getElem?_set];unfold ew;rw[hu,List.getElem?_map,List.getElem?_map,List.length_map];by_cases dU:i=j
 ·subst dU;rw[Qb rfl,Qb hi,h,Option.map_some,FH,Qb rfl]
 ·rw[Qc dU]
  cases hj:(cx (ps.map (·.2)))[j]? with
  | none=>rfl
  | some s=>
   obtain⟨pD,tM⟩:=cQ.1 hj;have hne:p.2≠s:=λe=>dU ((List.getElem_inj (h₀:=hi) (h₁:=pD) pJ).1 (he.trans (e.trans tM.symm)));rw[Option.map_some,Option.map_some,FH,Qc hne]
theorem aiJ(ps:List (Span×Signed)):(ew ps).length=(cx (ps.map (·.2))).length:=List.length_map _
theorem Wk:∀ (k n:Nat),n<10 ^ (k+1)->(nk n).length<=k+1:=by
 intro k
 induction k with
 | zero=>intro n h; rw[nk,Qb (by simpa using h)]; simp
 | succ k ih=>
  intro n h;rw[nk];split
  ·simp
  ·have:=ih (n / 10) (by rw[Nat.pow_succ] at h; omega)
   simp only[List.length_append,List.length_singleton]; omega
def oS(n:Int):Signed:=⟨⟨[120],4,60,[⟨[],n,9⟩]⟩,[]⟩
def sN:Signed:=⟨⟨[120],2,60,[⟨[97,46,110,115],0,0⟩]⟩,[]⟩
def dl(n:Int):Zone:=⟨[120],[sN,oS n]⟩
def pp:List Copy:=[⟨0,0,10,dl 1⟩,⟨0,10,30,dl 2⟩,⟨1,5,20,dl 1⟩]
def DM:List Host:=[⟨[97,46,110,115],1,0⟩,⟨[98,46,110,115],2,0⟩]
def Iy:DSet:=⟨[46],6,60,[⟨[],1,1⟩]⟩
def exH:Hist:=⟨DM,pp,Iy,[1],0,40⟩
def yd:Hist:=⟨DM,[⟨0,0,10,dl 1⟩,⟨0,9,30,dl 2⟩,⟨1,5,20,dl 1⟩],Iy,[1],0,40⟩
theorem aMX(n:Int)(h:n=1\/n=2):eN (dl n)=true:=by
 rcases h with rfl | rfl <;> decide
theorem Lc(n:Int)(h:n=1\/n=2):VZone (dl n):=by
 have hb:dT (dl n) = [[],[]]:=by rcases h with rfl | rfl <;> decide
 refine⟨aMX n h,by simp[dl],⟨oS n,by simp[dl],rfl,rfl⟩,⟨sN,by simp[dl],rfl,rfl⟩,λx hx=>?_,λi hi ht=>?_,λi hi ht=>?_,λi x b hx cg=>?_,λi x b hx cg=>?_,λx hx=>?_⟩
 ·simp only[dl,List.mem_cons,Qh,or_false] at hx;rcases hx with rfl | rfl <;> rfl
 ·match i,hi with
  | 0,_=>exact absurd ht (by simp[dl,oS])
  | i+1,hi=>exact absurd hi (by simp[dl])
 ·match i,hi with
  | 0,_=>exact absurd ht (by simp[dl,sN])
  | i+1,hi=>exact absurd hi (by simp[dl])
 ·rw[hb] at cg
  match i,hx,cg with
  | 0,hx,cg=>simp[dl] at hx cg; subst hx; subst cg; simp[kT,sN]
  | 1,hx,cg=>simp[dl] at hx cg; subst hx; subst cg; simp[kT,oS]
  | i+2,hx,cg=>simp[dl] at hx
 ·rw[hb] at cg
  match i,hx,cg with
  | 0,hx,cg=>simp at cg; subst cg; intro h; exact absurd rfl h
  | 1,hx,cg=>simp at cg; subst cg; intro h; exact absurd rfl h
  | i+2,hx,cg=>simp[dl] at hx
 ·simp only[dl,List.mem_cons,Qh,or_false] at hx;rcases hx with rfl | rfl
  ·exact⟨by decide,λi g hg=>by simp[sN] at hg⟩
  ·exact⟨by simp[oS],λi g hg=>by simp[oS] at hg⟩
theorem WA:VHosts DM:=by
 refine⟨by decide,λh hh=>?_,by decide⟩;simp only[DM,List.mem_cons,Qh,or_false] at hh;rcases hh with rfl | rfl
 ·exact⟨by decide,by decide,by decide,by decide⟩
 ·exact⟨by decide,by decide,by decide,by decide⟩
theorem WF:VRoot Iy [1]:=by
 refine⟨by decide,rfl,rfl,by decide,λn hn=>?_⟩;simp only[List.mem_cons,Qh,or_false] at hn;subst hn; decide
theorem ye:VHist exH:=by
 refine⟨by decide,by decide,WA,WF,λc hc=>?_,?_⟩
 ·simp only[exH,pp,List.mem_cons,Qh,or_false] at hc;rcases hc with rfl | rfl | rfl
  ·exact⟨by decide,by decide,Lc 1 (.inl rfl)⟩
  ·exact⟨by decide,by decide,Lc 2 (.inr rfl)⟩
  ·exact⟨by decide,by decide,Lc 1 (.inl rfl)⟩
 ·simp only[exH,pp,List.pairwise_cons,List.mem_cons,Qh,or_false,gE,dl];refine⟨?_,?_,?_,?_⟩
  ·rintro c (rfl | rfl) ⟨h1,h2,h3,h4⟩
   ·revert h4; decide
   ·revert h1; decide
  ·rintro c rfl ⟨h1,h2,h3,h4⟩;revert h1; decide
  ·intro c hc; cases hc
  ·exact List.Pairwise.nil
theorem Wx:¬ VHist yd:=λh=>by
 have:=(List.pairwise_cons.1 h.apart).1 ⟨0,9,30,dl 2⟩ (by simp)
 exact this ⟨rfl,rfl,by decide,by decide⟩
theorem NF:(oT exH 10).zones = [⟨0,dl 2⟩,⟨1,dl 1⟩]:=by rfl
theorem Wz:(oT exH 30).zones = []:=by rfl
theorem WM:apexes pp = [[120]]:=by
 rw[<-Ii]; decide
theorem Fc{l:List Span}{a b:Int}(hf:∀ s∈l,s.frm<s.til)(h:a<b)(ht:∀ t,(a<=t/\t<b)↔inS l t):eL l = [⟨a,b⟩]:=by
 refine (Kv hf ⟨λs hs=>?_,List.pairwise_singleton _ _⟩ λt=>?_).symm
 ·rw[List.mem_singleton] at hs; subst hs; exact h
 ·rw[<-ht t];simp[inS]
theorem WG:qW pp [120] 1 = [⟨5,20⟩]:=by
 show eL [⟨5,20⟩]=_;exact Fc (by simp) (by decide) (by simp[inS])
theorem WC:pub pp [120] = [⟨[120],sN,[⟨0,30⟩],[]⟩,⟨[120],oS 1,[⟨0,20⟩],[]⟩,⟨[120],oS 2,[⟨10,30⟩],[]⟩]:=by
 have h1:eL [⟨0,10⟩,⟨10,30⟩,⟨5,20⟩] = [⟨0,30⟩]:=Fc (by simp) (by decide) (λt=>by simp[inS]; omega);have h2:eL [⟨0,10⟩,⟨5,20⟩] = [⟨0,20⟩]:=Fc (by simp) (by decide) (λt=>by simp[inS]; omega);have h3:eL [⟨10,30⟩] = [⟨10,30⟩]:=Fc (by simp) (by decide) (λt=>by simp[inS]);rw[<-h1,<-h2,<-h3];rfl
theorem WB:nj pp [121] = []:=by rfl
end Np
section
open Go.ChangeShapes Go.WideShapes Go.ChangeAt Go.RowKit Go.Deep
def iR{α:Type}(P:Program)(t:TypeId)(sz:Nat)(R:World->Nat->List Value->α->Prop):Prop:=
 ∀ (H:Type) (enc:TypeId×Value->H) (W:World) (base:Nat) (spare:Nat->Bool) (held:Bool) (fuel:Nat) (cs:List Value) (d:DataW H) (ps:List MemPlace),
   DataW.trod enc P W base spare held fuel t cs=some (d,ps)->(∀ n∈d.weights P t,n<=reachBytes)->cs.length=sz/\∃ x,R W W.heap.size cs x
def RNum(k:IntKind)(_:World)(_:Nat)(e:List Value)(x:Int):Prop:=e = [.int k x]/\(Lit.int k x).wf=true
theorem kM{P:Program}{t:TypeId}{k:IntKind}(ht:P.underlying t=some (.int k)):iR P t 1 (RNum k):=by
 intro H enc W base spare held fuel cs d ps h _;obtain⟨n,rfl,_,ZS⟩:=DataW.trod_int ht h;exact⟨rfl,n,rfl,ZS⟩
def RStr(_:World)(_:Nat)(e:List Value)(x:List UInt8):Prop:=∃ s:ByteArray,s.data.toList=x/\s.size<=140737488355328/\e = [.string s]
theorem CE{P:Program}{t:TypeId}(ht:P.underlying t=some .string):iR P t 1 RStr:=by
 intro H enc W base spare held fuel cs d ps h hw;obtain⟨s,rfl,hx,_⟩:=DataW.trod_string ht h;simp only[Prod.mk.injEq] at hx;rw[hx.1] at hw
 have:=hw s.data.toList.length (by simp[DataW.weights])
 have h2:=reachBytes_lt;exact⟨rfl,s.data.toList,s,rfl,by rw[aT] at this; omega,rfl⟩
def RSl{α:Type}(R:World->Nat->List Value->α->Prop)(sz:Nat)(W:World)(B:Nat)(e:List Value)(xs:List α):Prop:=∃ v,e = [v]/\SlR R sz W B v xs
theorem RSl.more{α:Type}{R:World->Nat->List Value->α->Prop}{sz:Nat}(h:dN R):dN (RSl R sz):=λ_ _ _ _ _ ⟨v,hv,hs⟩ hb=>⟨v,hv,hs.more h hb⟩
theorem RU{H:Type}{P:Program}{e:TypeId} : ∀ {ds:List (DataW H)} {d:DataW H},d∈ds->∀ n∈d.weights P e,n∈DataW.weightsAll P e ds
 | d0::ds,d,hd,n,hn=>by
   simp only[DataW.weightsAll,List.mem_append];rcases List.mem_cons.1 hd with rfl | hd
   ·exact .inl hn
   ·exact .inr (RU hd n hn)
theorem MW(b o n:Nat):(⟨b,o,none⟩:Addr).add n=⟨b,o+n,none⟩:=by
 unfold Addr.add;split
 ·rename_i h; subst h; rfl
 ·rfl
theorem Va{W:World}{a:Addr}{v:Value}(h:W.cell? a=some v):a=⟨a.block,a.off,none⟩:=by
 have:=World.cell?_spot h
 cases a; simp_all
theorem ze{α:Type}{P:Program}{t e:TypeId}{sz:Nat}{R:World->Nat->List Value->α->Prop}(ht:P.underlying t=some (.slice e))(hC:P.cellsOf e=sz)(am:0<sz)(hb:0<P.bytesOf e)(hR:iR P e sz R):iR P t 1 (RSl R sz):=by
 intro H enc W base spare held fuel cs d ps h hw;rcases open_slice ht h with ⟨rfl,_⟩ | ⟨a,len,cap,m,n,D,Pl,rfl,mD,hl,hm,wL,hx,hi⟩
 ·exact⟨rfl,[],_,rfl,none,0,rfl,by simp,by simp,λi x hx=>by simp at hx⟩
 ·simp only[Prod.mk.injEq] at hx;rw[hx.1] at hw;have Ew:len<=m:=by rw[wL]; split <;> omega
  have hlen:len<=140737488355328:=by
   have:=hw ((((List.range len).map D).length+((List.range (m - len)).map λj=>D (len+j)).length) * P.bytesOf e) (by simp[DataW.weights,ht])
   simp only[List.length_map,List.length_range] at this;have h2:=reachBytes_lt;have h3:len+(m - len)<=(len+(m - len)) * P.bytesOf e:=Nat.le_mul_of_pos_right _ hb;omega
  have br:∀ i,i<len->∃ x cs',W.cells? base (a.add (i * sz)) sz=some cs'/\cs'.length=sz/\R W W.heap.size cs' x:=λi dV=>by
   obtain⟨cs',hc,ZM⟩:=hi i (by omega);rw[hC] at hc;obtain⟨h1,x,h2⟩:=hR H enc W base spare held n cs' (D i) (Pl i) ZM (λk hk=>hw k (by
    simp only[DataW.weights,ht];exact mQ _ (List.mem_append_left _ (RU (List.mem_map.2 ⟨i,List.mem_range.2 dV,rfl⟩) k hk))))
   exact⟨x,cs',hc,h1,h2⟩
  have az:∀ k,k<=len->∃ xs:List α,xs.length=k/\∀ i x,xs[i]?=some x->∃ cs',W.cells? base (a.add (i * sz)) sz=some cs'/\cs'.length=sz/\R W W.heap.size cs' x:=by
   intro k
   induction k with
   | zero=>exact λ_=>⟨[],rfl,λi x hx=>by simp at hx⟩
   | succ k ih=>
    intro hk;obtain⟨xs,ul,lC⟩:=ih (by omega);obtain⟨x,hx⟩:=br k (by omega);refine⟨xs ++ [x],by simp[ul],λi y hy=>?_⟩;rcases Nat.lt_or_ge i xs.length with aa | qC
    ·rw[List.getElem?_append_left aa] at hy; exact lC i y hy
    ·rw[oQ qC] at hy
     have:i - xs.length=0:=by
      have:=(cQ.1 hy).1
      simp at this; omega
     rw[this] at hy;simp at hy;subst hy;rw[show i=k by omega];exact hx
  obtain⟨xs,ul,lC⟩:=az len (bQ _);refine⟨rfl,xs,_,rfl,some a,cap,by rw[ul],by omega,by omega,λi x hx=>?_⟩;have h0:0<len:=by have:=(cQ.1 hx).1; omega
  obtain⟨c0,Ei,aXJ,_⟩:=lC 0 _ (aQ (by omega));obtain⟨_,_,Ym⟩:=World.cells?_some Ei;have ha:a=⟨a.block,a.off,none⟩:=by
   have h1:=Ym 0 am;rw[show (a.add (0 * sz)).add 0=a by simp[Addr.add]] at h1;rw[aQ (by omega)] at h1;exact Va h1
  obtain⟨cs',hc,js,D8⟩:=lC i x hx;obtain⟨_,_,Yl⟩:=World.cells?_some hc;have hce:cR W a.block (a.off+i * sz) cs':=λj u hj=>by
   have nE:=(cQ.1 hj).1;have h1:=Yl j (by omega);rw[hj,ha] at h1;have h2:((⟨a.block,a.off,none⟩:Addr).add (i * sz)).add j=⟨a.block,a.off+i * sz+j,none⟩:=by
    rw[MW,MW]
   rw[h2] at h1;exact h1
  refine⟨a.block,a.off,cs',by rw[<-ha],?_,js,hce,D8⟩
  have:=World.block_lt_of_cell? W _ (hce 0 _ (aQ (by omega)))
  exact this
theorem ur{P:Program}{t:TypeId}{fs:Array Field}(hs:P.underlying t=some (.struct fs)){H:Type}{enc:TypeId×Value->H}{W:World}{base:Nat}{spare:Nat->Bool}{held:Bool}{fuel:Nat}{cs:List Value}{d:DataW H}{ps:List MemPlace}
 (h:DataW.trod enc P W base spare held fuel t cs=some (d,ps)) (hw:∀ n∈d.weights P t,n<=reachBytes) :
 cs.length=P.cellsOf t/\∀ (j:Nat) (f:Field),fs[j]?=some f->∃ n d' ps',DataW.trod enc P W base spare held n f.type ((cs.drop f.offset).take (P.cellsOf f.type))=some (d',ps')/\∀ k∈d'.weights P f.type,k<=reachBytes:=by
 obtain⟨ys,n,_,hx,hl,hyl,hf⟩:=DataW.trod_struct hs h;simp only[Prod.mk.injEq] at hx;refine⟨hl,λj f hj=>?_⟩;have nE:j<fs.size:=(eQ.1 hj).1;have h1:=hf j f hj;rw[aQ (by omega)] at h1;refine⟨n,_,_,h1,λk hk=>hw k ?_⟩;rw[hx.1];simp only[DataW.weights,hs];refine DataW.weights_mem_each (j:=j) (t:=f.type) (d:=(ys[j]'(by omega)).1) ?_ ?_ k hk
 ·simp[hj]
 ·simp[aQ (show j<ys.length by omega)]
theorem Na{H:Type}{enc:TypeId×Value->H}{P:Program}(hl:laidOutB P=true){W W':World}(hb:Below W.heap.size W W') :
 ∀ {ts:List TypeId} {vs:List Value} {ds:List (DataW H)} {ps:List MemPlace},(∀ t∈ts,P.readableRec t=true/\t<P.types.size)->DataW.TrodAll enc P W 0 (λ_=>true) true ts vs ds ps->(∀ x∈ps,x.block<W.heap.size)->
   DataW.TrodAll enc P W' 0 (λb=>decide (b<W.heap.size)) true ts vs ds ps
 | [],[],[],_,_,h,_=>h
 | t::ts,v::vs,d::ds,ps,hr,h,aa=>by
   obtain⟨p,q,h1,h2,rfl⟩:=h;have ht:=hr t (by simp);exact⟨p,q,Below.trod hl ht.1 ht.2 h1 hb (λx hx=>aa x (by simp[hx])),Na hl hb (λt ht=>hr t (by simp[ht])) h2 (λx hx=>aa x (by simp[hx])),rfl⟩
 | [],_::_,_,_,_,h,_=>h.elim
 | [],[],_::_,_,_,h,_=>h.elim
 | _::_,[],_,_,_,h,_=>h.elim
 | _::_,_::_,[],_,_,h,_=>h.elim
theorem Kn{H:Type}{enc:TypeId×Value->H}{P:Program}{f:Func}{s:ChangeSpec}{W W':World}{args:Array Value}{v:Value}{ds gs:List (DataW H)}{before:List MemPlace}
 (hl:laidOutB P=true) (hr:∀ t∈f.params.toList,P.readableRec t=true/\t<P.types.size) (ft:s.vars = [])
 (hW:DataW.Whole enc P f.params.toList s.vars false W args.toList ds gs before) (hb:Below W.heap.size W W')
 (sj:∀ (b:Nat) (sp:Nat->Bool) (hd:Bool),DataW.TrodAll enc P W' b sp hd f.resultTypes.toList (v.resultList f.resultTypes.size) (s.fn H (ds++gs)).results [])
 (vP:(s.fn H (ds++gs)).args=ds) (ZP:(s.fn H (ds++gs)).vars = []) :
 s.post enc P f false true false false W args v W':=by
 have aa:=hW.lt;have hW':=hW;obtain⟨p,q,hA,hV,rfl,_,_⟩:=hW;rw[ft] at hV;have hq:q = []:=by
  cases gs with
  | nil=>exact hV
  | cons _ _=>exact hV.elim
 subst hq;refine⟨ds,gs,_,[],p,[],hW',sj _ _ _,?_,?_,World.keptBut_mono (λx hx=>⟨hx,.inr (by simpa using hx)⟩) (hb.frame (·∈p ++ [])),λh=>by cases h⟩
 ·rw[vP];exact Na hl hb hr hA (λx hx=>aa x (by simp[hx]))
 ·rw[ZP,ft]; rfl
theorem AR:prog.cellsOf 9=1:=by kernel_rfl
theorem lo:laidOutB prog=true:=by kernel_rfl
end
end Go.Proofs.YtbfbobfbgabjiaaGreatDoor
