/- Parts of the proof. No condition. -/
import Derived.Deep.LoopGhost
import Derived.RegionTactic
import Derived.Laws.MakeOwn
import Derived.ChangeAlike
import Derived.Test.YtfnopgdcaanaiaaGreatDoorH07
import Derived.Test.YtfnopgdcaanaiaaGreatDoorH09
set_option linter.all false
set_option maxRecDepth 100000
set_option maxHeartbeats 8000000
namespace Go.Proofs.YtfnopgdcaanaiaaGreatDoor
open Go.Proofs.Tryz
section
open Go.RowKit
theorem So(s1 s2:ByteArray)(h1:s1.size<=140737488355328)(h2:s2.size<=140737488355328)(t1 l1 t2:Int)(A1 A2:Option Addr)(m1 c1 m2 c2:Nat)(n1:Np.aC s1.data.toList=true)(n2:Np.aC s2.data.toList=true)(w:World) :
 Calls prog 328 #[.agg #[.string s1,.int .i64 t1,.int .i64 l1,.slice A1 m1 c1,.slice A2 m2 c2],.agg #[.string s2,.int .i64 t2]] w
  λe w'=>e = .returned (.int .i64 (Np.eh (s1.data.toList,t1) (s2.data.toList,t2)))/\Below w.heap.size w w':=by
 have HW:Hid (∀ o o',Below w.heap.size w ((w.alloc o).alloc o')):=jq (λo o'=>((vQ _ w).alloc (bQ _) _).alloc (by simp) _);have N1:=jq n1;have N2:=jq n2;clear n1 n2;go_enter func328,ntmps328;go_wp2_with fail;refine (Oy s1 s2 h1 h2 _ _ N1.out N2.out _).mono ?_;rintro e w1 ⟨rfl,hb⟩;have HB:=jq ((HW.out _ _).trans (hb.mono (by simp;omega)));clear hb;go_wp2_with fail;go_ret;exact⟨rfl,HB.out⟩
def Np.zl(l:List Np.Signed)(key:List UInt8×Int):Nat:=l.countP λx=>decide (Np.eh (Np.dM x.set) key<0)
def Np.sN(l:List Np.Signed):Prop:=l.Pairwise λa b=>Np.eh (Np.dM a.set) (Np.dM b.set)<0
theorem Xc{l:List Np.Signed}{key:List UInt8×Int}{i:Nat}(hi:i<=l.length)(h1:∀ j x,j<i->l[j]?=some x->Np.eh (Np.dM x.set) key<0)(h2:∀ j x,i<=j->l[j]?=some x->¬ Np.eh (Np.dM x.set) key<0):Np.zl l key=i:=by
 unfold Np.zl;have e:=List.take_append_drop i l;rw[<-e,List.countP_append,List.countP_eq_length.2,List.countP_eq_zero.2]
 ·rw[List.length_take];omega
 ·intro x hx;obtain⟨j,hj,rfl⟩:=nQ.1 hx;rw[List.getElem_drop];simpa using h2 (i+j) _ (by omega) (aQ _)
 ·intro x hx;obtain⟨j,hj,rfl⟩:=nQ.1 hx;rw[List.getElem_take];rw[List.length_take] at hj;simpa using h1 j _ (by omega) (aQ _)
theorem SA{l:List Np.Signed}(hs:Np.sN l){key:List UInt8×Int}{i:Nat}(h1:∀ j x,j<i->l[j]?=some x->Np.eh (Np.dM x.set) key<0)(h2:∀ j x,i<=j->l[j]?=some x->¬ Np.eh (Np.dM x.set) key<0):(∃ x∈l,Np.dM x.set=key)↔∃ x,l[i]?=some x/\Np.eh (Np.dM x.set) key=0:=by
 constructor
 ·rintro⟨x,hx,rfl⟩;obtain⟨j,hj,rfl⟩:=nQ.1 hx;have UX:=Np.vP.self (Np.dM l[j].set);rcases Nat.lt_trichotomy j i with h | h | h
  ·have:=h1 j _ h (aQ hj)
   omega
  ·subst h;exact⟨_,aQ hj,UX⟩
  ·exact absurd (List.pairwise_iff_getElem.1 hs i j (by omega) hj h) (h2 i _ (bQ _) (aQ (by omega)))
 ·rintro⟨x,hx,h⟩;exact⟨x,gQ hx,Np.vP.zero _ _ h⟩
theorem GE{l:List Np.Signed}(hs:Np.sN l){i j:Nat}{x y:Np.Signed}(hx:l[i]?=some x)(hy:l[j]?=some y)(h:i<j):Np.eh (Np.dM x.set) (Np.dM y.set)<0:=by
 obtain⟨hi,rfl⟩:=cQ.1 hx;obtain⟨hj,rfl⟩:=cQ.1 hy;exact List.pairwise_iff_getElem.1 hs i j hi hj h
theorem Y3{z:Np.Zone}(h:Np.InOrder z):Np.sN z.sets:=by
 have:=h.order
 rw[List.pairwise_map] at this;exact this.imp λh=>by rw[<-Np.Eu];exact h
def Np.iM(l:List Np.Signed)(n:List UInt8)(t:Int):Prop:=∃ x∈l,x.set.name=n/\x.set.type=t
theorem Ti{l:List Np.Signed}{n:List UInt8}{t:Int} : Np.iM l n t↔∃ x∈l,Np.dM x.set=(n,t):=by
 unfold Np.iM Np.dM;simp only[Prod.mk.injEq]
theorem Ri(v:Value)(l:List Np.Signed)(bI:l.length<=20000)(hv:∀ x∈l,Np.aC x.set.name=true)(hs:Np.sN l)(q:ByteArray)(hq:q.size<=140737488355328)(qt:Int)(nq:Np.aC q.data.toList=true)(w:World)(hd:SlR bh 5 w w.heap.size v l) :
 Calls prog 327 #[v,.agg #[.string q,.int .i64 qt],.func (.func 328) #[] #[]] w
  λe w'=>e = .returned (.tuple #[.int .i64 (Np.zl l (q.data.toList,qt)),.bool (Np.yes (Np.iM l q.data.toList qt))])/\Below w.heap.size w w':=by
 obtain⟨pl,rt⟩:∃ pl,Np.zl l (q.data.toList,qt)=pl:=⟨_,rfl⟩;obtain⟨r,hr⟩:∃ r,Np.yes (Np.iM l q.data.toList qt)=r:=⟨_,rfl⟩;rw[rt,hr];have sw:=jq rt;have HR:=jq hr;have HV:=jq hv;have HS:=jq hs;have HD:=jq hd;have NQ:=jq nq;have eg:∀ args w,(callFunc 328 args).run prog w = .ok (.enter 328 args) w:=enters_of func328 (by kernel_rfl) rfl;obtain⟨A,c,rfl,bw,bT⟩:=al hd;clear rt hr hv hs hd nq;have HW:Hid (∀ o,Below w.heap.size w (w.alloc o)):=jq (λo=>(vQ _ w).alloc (bQ _) _);go_enter func327,ntmps327;go_wp2_with fail;have c0:=World.cell?_alloc_new w #[.string q,.int .i64 qt] 31 0;have c1:=World.cell?_alloc_new w #[.string q,.int .i64 qt] 31 1;have du:w.heap.size<(w.alloc (.cells #[.string q,.int .i64 qt] 31)).heap.size:=by simp
 have aq:=jq (HW.out (.cells #[.string q,.int .i64 qt] 31));generalize w.alloc (.cells #[.string q,.int .i64 qt] 31)=w1 at c0 c1 du aq |-;replace c0:w1.cell? ⟨w.heap.size,0,none⟩=some (.string q):=c0;replace c1:w1.cell? ⟨w.heap.size,1,none⟩=some (.int .i64 qt):=c1;go_loopg [9,10] l.length (λg s7 s8 wr=>∃ lo hi:Nat,s7 = .int .i64 lo/\s8 = .int .i64 hi/\lo<=hi/\hi<=l.length/\hi - lo<=g/\Hid (Below w1.heap.size w1 wr)/\Hid ((∀ j x,j<lo->l[j]?=some x->Np.eh (Np.dM x.set) (q.data.toList,qt)<0)/\(∀ j x,hi<=j->l[j]?=some x->¬ Np.eh (Np.dM x.set) (q.data.toList,qt)<0)))
 case atStart=>exact⟨0,l.length,rfl,rfl,jQ _,bQ _,by omega,jq (vQ _ _),jq ⟨λj x hj=>by omega,λj x hj hx=>by have:=(cQ.1 hx).1;omega⟩⟩
 case round=>
  obtain⟨lo,hi,rfl,rfl,hlh,hin,hg,HB,HI⟩:=hrel;have Vi:=HB.out.size;have d0:wr.cell? ⟨w.heap.size,0,none⟩=some (.string q):=by rw[HB.out.cell (by simpa using du)];exact c0
  have d1:wr.cell? ⟨w.heap.size,1,none⟩=some (.int .i64 qt):=by rw[HB.out.cell (by simpa using du)];exact c1
  have cZ:w.heap.size<wr.heap.size:=by omega
  have aw:=jq (aq.out.trans (HB.out.mono (by omega)));have k9:∀ (g:bq wr) (p:Addr),p.block<wr.heap.size->g.w.cell? p=wr.cell? p:=λg p h=>g.cell p h;have cD:=HD.out.keep aX aw.out;have mf:Hid (∀ (k:Nat) (x:Np.Signed),l[k]?=some x->∃ (b o c':Nat) (s:ByteArray) (Ad:Option Addr) (md cd:Nat) (As:Option Addr) (ms cs:Nat),A=some ⟨b,o,none⟩/\b<wr.heap.size/\wr.cell? ⟨b,o+k * 5,none⟩=some (.string s)/\wr.cell? ⟨b,o+k * 5+1,none⟩=some (.int .i64 x.set.type)/\wr.cell? ⟨b,o+k * 5+2,none⟩=some (.int .i64 x.set.life)/\wr.cell? ⟨b,o+k * 5+3,none⟩=some (.slice Ad md cd)/\wr.cell? ⟨b,o+k * 5+4,none⟩=some (.slice As ms cs)/\
   ∀ g:bq wr,Calls prog 328 #[.agg #[.string s,.int .i64 x.set.type,.int .i64 x.set.life,.slice Ad md cd,.slice As ms cs],.agg #[.string q,.int .i64 qt]] g.w λe w'=>e = .returned (.int .i64 (Np.eh (Np.dM x.set) (q.data.toList,qt)))/\Below g.w.heap.size g.w w'):=jq (λk x hx=>by
   obtain⟨b,o,c',s,dv,sv,hA,bJ,_,ay,an,aW,aM,e0,e1,e2,e3,e4⟩:=eq cD hx
   cases hA
   obtain⟨Ad,cd,rfl,_,_⟩:=al aW;obtain⟨As,cs,rfl,_,_⟩:=al aM;refine⟨b,o,c,s,Ad,_,cd,As,_,cs,rfl,by omega,e0,e1,e2,e3,e4,λg=>?_⟩
   have:=So s q an hq x.set.type x.set.life qt Ad As x.set.data.length cd x.sigs.length cs (by rw[ay];exact HV.out x (gQ hx)) NQ.out g.w
   rw[ay] at this;exact this)
  clear cD c0 c1;by_cases aa:lo<hi
  ·obtain⟨k,hk⟩:∃ k,(lo+hi) / 2=k:=⟨_,rfl⟩;have lh:k<l.length:=by omega
   have ab:=aQ lh;obtain⟨b,o,c',s,Ad,md,cd,As,ms,cs,rfl,aG,e0,e1,e2,e3,e4,cC⟩:=mf.out k _ ab;generalize hx:l[k]=x at *;have HX:=jq ab;have mT:=jq cC;have hkI:((lo:Int)+(hi:Int)) / 2=(k:Int):=by omega
   have HK:=jq hk;have bO:(0:Int)<=(k:Int):=by omega
   have bM:(k:Int)<(l.length:Int):=by omega
   clear ab cC hx hk;by_cases hc:Np.eh (Np.dM x.set) (q.data.toList,qt)<0
   ·have HN:Hid (∀ j y,j<k+1->l[j]?=some y->Np.eh (Np.dM y.set) (q.data.toList,qt)<0):=jq (λj y hj hy=>by
     by_cases e:j=k
     ·subst e;rw[HX.out] at hy;cases hy;exact hc
     ·exact Np.vP.trans _ _ _ (GE HS.out hy HX.out (by omega)) hc)
    have eG:decide (Np.eh (Np.dM x.set) (q.data.toList,qt)<0)=true:=by simpa using hc
    clear hc;go_wp2_with fail;refine fG (by kernel_rfl) (by kernel_rfl) ?_
    repeat (go_big_quiet_step ((go_at_call 328;exact Calls.grow_of (mT.out _))))
    refine wpQuiet_nil ?_;rintro _ ⟨g,rfl⟩;go_wp2_with fail;go_roundg (hi - (k+1))
    case measure=>have:=HK.out;omega
    case rel=>exact⟨k+1,hi,by go_num,rfl,by have:=HK.out;omega,hin,bQ _,jq (HB.out.trans (g.below.mono (by omega))),jq ⟨HN.out,HI.out.2⟩⟩
   ·have HN:Hid (∀ j y,k<=j->l[j]?=some y->¬ Np.eh (Np.dM y.set) (q.data.toList,qt)<0):=jq (λj y hj hy aa=>by
     by_cases e:j=k
     ·subst e;rw[HX.out] at hy;cases hy;exact hc aa
     ·exact hc (Np.vP.trans _ _ _ (GE HS.out HX.out hy (by omega)) aa))
    have eG:decide (Np.eh (Np.dM x.set) (q.data.toList,qt)<0)=false:=by simpa using hc
    clear hc;go_wp2_with fail;refine fG (by kernel_rfl) (by kernel_rfl) ?_
    repeat (go_big_quiet_step ((go_at_call 328;exact Calls.grow_of (mT.out _))))
    refine wpQuiet_nil ?_;rintro _ ⟨g,rfl⟩;go_wp2_with fail;go_roundg (k - lo)
    case measure=>have:=HK.out;omega
    case rel=>exact⟨lo,k,rfl,by go_num,by have:=HK.out;omega,by omega,bQ _,jq (HB.out.trans (g.below.mono (by omega))),jq ⟨HI.out.1,HN.out⟩⟩
  ·obtain rfl:hi=lo:=by omega
   have HE:Hid (pl=hi):=jq (by rw[<-sw.out];exact Xc hin HI.out.1 HI.out.2);have HF:Hid (r=Np.yes (∃ x,l[hi]?=some x/\Np.eh (Np.dM x.set) (q.data.toList,qt)=0)):=jq (by rw[<-HR.out];exact Np.ql (Ti.trans (SA HS.out HI.out.1 HI.out.2)));by_cases hn:hi<l.length
   ·have ab:=aQ hn;obtain⟨b,o,c',s,Ad,md,cd,As,ms,cs,rfl,aG,e0,e1,e2,e3,e4,cC⟩:=mf.out hi _ ab;generalize hx:l[hi]=x at *;have HX:=jq ab;have mT:=jq cC;have bO:(0:Int)<=(hi:Int):=by omega
    have bM:(hi:Int)<(l.length:Int):=by omega
    clear ab cC hx;by_cases hc:Np.eh (Np.dM x.set) (q.data.toList,qt)=0
    ·have HT:Hid (r=true):=jq (by rw[HF.out];exact Np.bB ⟨x,HX.out,hc⟩);have eG:(Np.eh (Np.dM x.set) (q.data.toList,qt) == 0)=true:=by simpa using hc
     clear hc;go_wp2_with fail;refine fG (by kernel_rfl) (by kernel_rfl) ?_
     repeat (go_big_quiet_step ((go_at_call 328;exact Calls.grow_of (mT.out _))))
     refine wpQuiet_nil ?_;rintro _ ⟨g,rfl⟩;go_wp2_with fail;go_ret2;exact⟨by rw[HE.out,HT.out];rfl,aw.out.trans (g.below.mono (by omega))⟩
    ·have HT:Hid (r=false):=jq (by rw[HF.out];exact Np.aF λ⟨y,hy,h0⟩=>by rw[HX.out] at hy;cases hy;exact hc h0);have eG:(Np.eh (Np.dM x.set) (q.data.toList,qt) == 0)=false:=by simpa using hc
     clear hc;go_wp2_with fail;refine fG (by kernel_rfl) (by kernel_rfl) ?_
     repeat (go_big_quiet_step ((go_at_call 328;exact Calls.grow_of (mT.out _))))
     refine wpQuiet_nil ?_;rintro _ ⟨g,rfl⟩;go_wp2_with fail;go_ret2;exact⟨by rw[HE.out,HT.out];rfl,aw.out.trans (g.below.mono (by omega))⟩
   ·have HT:Hid (r=false):=jq (by rw[HF.out];exact Np.aF λ⟨y,hy,h0⟩=>by have:=(cQ.1 hy).1;omega);have bP:decide ((hi:Int)<(l.length:Int))=false:=by simp;omega
    have dW:decide (hi<l.length)=false:=by simp;omega
    go_wp2_with fail;refine fG (by kernel_rfl) (by kernel_rfl) ?_
    repeat (go_big_quiet_step (fail))
    refine wpQuiet_nil ?_;rintro _ ⟨g,rfl⟩;go_wp2_with fail;go_ret2;exact⟨by rw[HE.out,HT.out];rfl,aw.out.trans (g.below.mono (by omega))⟩
theorem JX(a:ByteArray)(v:Value)(l:List Np.Signed)(bI:l.length<=20000)(hv:∀ x∈l,Np.aC x.set.name=true)(hs:Np.sN l)(q:ByteArray)(hq:q.size<=140737488355328)(qt:Int)(nq:Np.aC q.data.toList=true)(w:World)(hd:SlR bh 5 w w.heap.size v l) :
 Calls prog 262 #[.agg #[.string a,v],.agg #[.string q,.int .i64 qt]] w
  λe w'=>e = .returned (.tuple #[.int .i64 (Np.zl l (q.data.toList,qt)),.bool (Np.yes (Np.iM l q.data.toList qt))])/\Below w.heap.size w w':=by
 have HV:=jq hv;have HS:=jq hs;have HD:=jq hd;have NQ:=jq nq;obtain⟨A,c,rfl,bw,bT⟩:=al hd;have HW:Hid (∀ o o',Below w.heap.size w ((w.alloc o).alloc o')):=jq (λo o'=>((vQ _ w).alloc (bQ _) _).alloc (by simp) _);clear hv hs hd nq;go_enter func262,ntmps262;go_wp2_with fail;refine (Ri _ l bI HV.out HS.out q hq qt NQ.out _ (HD.out.later aX cj (HW.out _ _))).mono ?_;rintro e w1 ⟨rfl,hb⟩;have HB:=jq ((HW.out _ _).trans (hb.mono (by simp;omega)));clear hb;go_wp2_with fail;go_ret2;exact⟨rfl,HB.out⟩
def RTx(_:World)(_:Nat)(e:List Value)(x:List UInt8):Prop:=∃ s:ByteArray,s.data.toList=x/\s.size<=140737488355328/\e = [.string s]
theorem mc:cY RTx:=λ_ _ _ _ _ h _=>h
theorem Nn:dw RTx:=λ_ _ _ _ _ h _=>h
def fy(a:List UInt8)(l:List Np.Signed):List (List UInt8×Value):=(l.filter λx=>decide (x.set.type=2)&&!(x.set.name == a)).map λx=>(x.set.name,.bool true)
theorem RV(a:List UInt8)(l:List Np.Signed)(x:Np.Signed):fy a (l ++ [x])=if x.set.type=2/\x.set.name≠a then fy a l ++ [(x.set.name,.bool true)] else fy a l:=by
 unfold fy;rw[List.filter_append];by_cases h1:x.set.type=2 <;> by_cases h2:x.set.name=a <;> simp[h1,h2]
theorem RU(a:List UInt8)(l:List Np.Signed)(x:Np.Signed):fy a (x::l)=if x.set.type=2/\x.set.name≠a then (x.set.name,.bool true)::fy a l else fy a l:=by
 unfold fy;by_cases h1:x.set.type=2 <;> by_cases h2:x.set.name=a <;> simp[h1,h2]
theorem AQ(a:List UInt8)(n:List UInt8):∀ l:List Np.Signed,((fy a l).lookup n).getD (.bool false) = .bool (Np.bZ ⟨a,l⟩ n)/\((∀ x∈l,x.set.type=2->x.set.name≠n)->(fy a l).lookup n=none)
 | []=>⟨rfl,λ_=>rfl⟩
 | x::l=>by
   obtain⟨i1,i2⟩:=AQ a n l;have e:Np.bZ ⟨a,x::l⟩ n=((decide (x.set.type=2)&&!(x.set.name == a)&&x.set.name == n)||Np.bZ ⟨a,l⟩ n):=rfl;rw[RU];split
   ·rename_i h;by_cases hn:x.set.name=n
    ·rw[hn,List.lookup_cons_self];refine⟨?_,λhh=>absurd hn (hh x (by simp) h.1)⟩;rw[e];have h2:=h.2;rw[hn] at h2 |-;simp[h.1,h2]
    ·have hb:(n == x.set.name)=false:=by simpa using λe=>hn e.symm
     rw[List.lookup_cons,hb];refine⟨?_,λhh=>i2 λy hy=>hh y (mQ _ hy)⟩;have ac:(x.set.name == n)=false:=by simpa using hn
     rw[e,ac,Bool.and_false,Bool.false_or];exact i1
   ·rename_i h;refine⟨?_,λhh=>i2 λy hy=>hh y (mQ _ hy)⟩;have hf:(decide (x.set.type=2)&&!(x.set.name == a))=false:=by
     rw[Bool.and_eq_false_iff];by_cases h1:x.set.type=2
     ·right
      have:x.set.name=a:=Decidable.not_not.1 λh2=>h ⟨h1,h2⟩
      simp[this]
     ·left;simpa using h1
    rw[e,hf,Bool.false_and,Bool.false_or];exact i1
theorem Gj(n j:Nat)(hj:j<n):(madeCells #[Value.string ⟨#[]⟩] n)[j]?=some (.string ⟨#[]⟩):=by
 unfold madeCells;simp[hj,Nat.mod_one]
theorem Tryz.infoStrZ:(prog.info? 9).map (λi=>(i.zero,i.size,i.bytes))=some (some (.string ⟨#[]⟩),1,16):=by kernel_rfl
theorem Gk(n:Nat)(hn:n<=20000)(w:World):(Instr.makeSlice 116 (.int .i64 n) (.int .i64 n)).run prog w = .ok (.slice (some ⟨w.heap.size,0,none⟩) n n) (w.alloc (.cells (madeCells #[Value.string ⟨#[]⟩] n) 9)):=by
 obtain⟨i,hi,hp⟩:=Option.map_eq_some_iff.1 Tryz.infoStrZ;simp only[Prod.mk.injEq] at hp;obtain⟨hz,hs,hb⟩:=hp
 have:=run_make (P:=prog) w 116 9 i (.string ⟨#[]⟩) underlying116 hi hz .i64 .i64 n n (by omega) (Int.le_refl _) (by rw[hb];omega) (by omega)
 rw[hs] at this;simpa [Value.cells] using this
def eD(w:World)(B:Nat)(xs:List (List UInt8)):Prop:=∀ j x,xs[j]?=some x->∃ s:ByteArray,s.data.toList=x/\s.size<=140737488355328/\w.cell? ⟨B,j,none⟩=some (.string s)/\w.frozen? ⟨B,j,none⟩=false
theorem eD.keep{w w':World}{B n:Nat}{xs:List (List UInt8)}(h:eD w B xs)(hb:Below n w w')(hB:B<n):eD w' B xs:=λj x hx=>by
 obtain⟨s,h1,h2,h3,h4⟩:=h j x hx;exact⟨s,h1,h2,(hb.cell (p:=⟨B,j,none⟩) hB).trans h3,(hb.frozen (p:=⟨B,j,none⟩) hB).trans h4⟩
theorem eD.store{w:World}{B:Nat}{xs:List (List UInt8)}(h:eD w B xs){k:Nat}(hk:k<xs.length)(s:ByteArray)(hs:s.size<=140737488355328):eD (w.setCell ⟨B,k,none⟩ (.string s)) B (xs.set k s.data.toList):=λj x hx=>by
 rw[List.getElem?_set] at hx;by_cases yB:k=j
 ·subst yB;rw[Qb rfl,Qb hk] at hx
  cases hx
  obtain⟨s0,_,_,h3,h4⟩:=h k _ (aQ hk);exact⟨s,rfl,hs,by simp[World.cell?_setCell_same,h3],(World.frozen?_setCell _ _ _ _).trans h4⟩
 ·rw[Qc yB] at hx;obtain⟨s0,h1,h2,h3,h4⟩:=h j x hx;exact⟨s0,h1,h2,by rw[xQ _ _ _ _ (by simp <;> omega)];exact h3,(World.frozen?_setCell _ _ _ _).trans h4⟩
theorem eD.other{w:World}{B:Nat}{xs:List (List UInt8)}(h:eD w B xs){p:Addr}(hp:p.block≠B)(u:Value):eD (w.setCell p u) B xs:=λj x hx=>by
 obtain⟨s,h1,h2,h3,h4⟩:=h j x hx;exact⟨s,h1,h2,(xQ _ _ _ _ (λe=>hp (by rw[e]))).trans h3,(World.frozen?_setCell _ _ _ _).trans h4⟩
theorem eD.slr{w:World}{B:Nat}{xs:List (List UInt8)}(h:eD w B xs)(hB:B<w.heap.size)(hl:xs.length<=140737488355328):SlR RTx 1 w w.heap.size (.slice (some ⟨B,0,none⟩) xs.length xs.length) xs:=
 ⟨_,_,rfl,bQ _,hl,λj x hx=>by
  obtain⟨s,h1,h2,h3,_⟩:=h j x hx;refine⟨B,0,[.string s],rfl,hB,rfl,λi v hv=>?_,s,h1,h2,rfl⟩
  match i,hv with
  | 0,hv=>cases hv;simpa using h3⟩
theorem Nk{bs:List (List UInt8)}{n k:Nat}{b:List UInt8}(hn:bs.length=n)(hb:bs[k]?=some b):(bs.take k++List.replicate (n - k) []).set k b=bs.take (k+1)++List.replicate (n - (k+1)) []:=by
 obtain⟨hk,rfl⟩:=cQ.1 hb;have e:n - k=(n - (k+1))+1:=by omega
 rw[e,List.replicate_succ,List.set_append_right _ _ (by rw[List.length_take];omega),List.length_take,show k - min k bs.length=0 by omega,List.set_cons_zero,fQ hk,List.append_assoc];rfl
structure LayK(w:World)(M Bl Bs:Nat)(a:ByteArray)(v sl:Value)(kv:List (List UInt8×Value))(wr:World)(bs:List (List UInt8)):Prop where
 below:Below w.heap.size w wr
 b0:wr.cell? ⟨w.heap.size,0,none⟩=some (.string a)
 b1:wr.cell? ⟨w.heap.size,1,none⟩=some v
 r0:wr.cell? ⟨w.heap.size+1,0,none⟩=some (.string ⟨#[]⟩)
 r1:wr.cell? ⟨w.heap.size+1,1,none⟩=some (.slice none 0 0)
 r2:wr.cell? ⟨w.heap.size+1,2,none⟩=some (.slice none 0 0)
 l0:wr.cell? ⟨Bl,0,none⟩=some (.string a)
 l1:wr.cell? ⟨Bl,1,none⟩=some v
 l2:wr.cell? ⟨Bl,2,none⟩=some sl
 map:cA M kv wr
 row:eD wr Bs bs
 blt:Bl<wr.heap.size
 slt:Bs<wr.heap.size
 rf:∀ j,wr.frozen? ⟨w.heap.size+1,j,none⟩=false
structure LayB(n M Bl Bs:Nat):Prop where
 map:n+2=M
 lay:M<Bl
 row:M<Bs
 ne:Bl≠Bs
theorem LayK.keep{w:World}{M Bl Bs:Nat}{a:ByteArray}{v sl:Value}{kv:List (List UInt8×Value)}{wr wx:World}{bs:List (List UInt8)}(h:LayK w M Bl Bs a v sl kv wr bs)(hB:LayB w.heap.size M Bl Bs)(hb:Below wr.heap.size wr wx):LayK w M Bl Bs a v sl kv wx bs:=by
 have h1:=hB.map;have h2:=hB.lay;have h3:=h.blt;have h4:=h.slt;have h5:=h.map.lt;have an:=hb.size;exact⟨h.below.trans (hb.mono h.below.size),(hb.cell (by simp <;> omega)).trans h.b0,(hb.cell (by simp <;> omega)).trans h.b1,(hb.cell (by simp <;> omega)).trans h.r0,(hb.cell (by simp <;> omega)).trans h.r1,(hb.cell (by simp <;> omega)).trans h.r2,
  (hb.cell (by simp <;> omega)).trans h.l0,(hb.cell (by simp <;> omega)).trans h.l1,(hb.cell (by simp <;> omega)).trans h.l2,h.map.keep hb h5,h.row.keep hb h4,by omega,by omega,λj=>(hb.frozen (by simp <;> omega)).trans (h.rf j)⟩
theorem cA.setCell{r:Nat}{kvs:List (List UInt8×Value)}{w:World}(h:cA r kvs w){p:Addr}(hp:p.block≠r)(u:Value):cA r kvs (w.setCell p u):=by
 obtain⟨es,c,h1,h2⟩:=h;exact⟨es,c,(wQ _ _ _ _ (λe=>hp e.symm)).trans h1,h2⟩
theorem LayK.store{w:World}{M Bl Bs:Nat}{a:ByteArray}{v sl:Value}{kv:List (List UInt8×Value)}{wr:World}{bs:List (List UInt8)}(h:LayK w M Bl Bs a v sl kv wr bs)(hB:LayB w.heap.size M Bl Bs){k:Nat}(hk:k<bs.length)(s:ByteArray)(hs:s.size<=140737488355328):LayK w M Bl Bs a v sl kv (wr.setCell ⟨Bs,k,none⟩ (.string s)) (bs.set k s.data.toList):=by
 have h1:=hB.map;have h2:=hB.lay;have h3:=hB.row;have h4:=hB.ne;exact⟨h.below.setCell (by simp <;> omega) _,(xQ _ _ _ _ (by simp <;> omega)).trans h.b0,(xQ _ _ _ _ (by simp <;> omega)).trans h.b1,(xQ _ _ _ _ (by simp <;> omega)).trans h.r0,(xQ _ _ _ _ (by simp <;> omega)).trans h.r1,(xQ _ _ _ _ (by simp <;> omega)).trans h.r2,
  (xQ _ _ _ _ (by simp <;> omega)).trans h.l0,(xQ _ _ _ _ (by simp <;> omega)).trans h.l1,(xQ _ _ _ _ (by simp <;> omega)).trans h.l2,h.map.setCell (by simp <;> omega) _,h.row.store hk s hs,by simpa using h.blt,by simpa using h.slt,λj=>(World.frozen?_setCell _ _ _ _).trans (h.rf j)⟩
def Ja(w:World)(M Bl Bs:Nat)(a:ByteArray)(v sl:Value)(kv:List (List UInt8×Value))(B:List (List UInt8))(C:List UInt8->Bool)(l:List Np.Signed)(vc i:Value)(wr:World):Prop:=
 ∃ (k:Nat) (sc:ByteArray),k<=l.length/\i = .int .i64 k/\vc = .string sc/\sc.size<=140737488355328/\Hid (LayK w M Bl Bs a v sl kv wr (B.take k++List.replicate (l.length - k) []))/\Hid (sc.data.toList = []\/Np.aC sc.data.toList=true)/\Hid (B.drop k=Np.mr C sc.data.toList (l.drop k))
def LayA(M:Nat)(w1:World)(a:List UInt8)(l:List Np.Signed)(i:Value)(wr:World):Prop:=
 ∃ k:Nat,k<=l.length/\i = .int .i64 k/\Hid (Below M w1 wr)/\Hid (cA M (fy a (l.take k)) wr)
theorem Wn(a:ByteArray)(v:Value)(l:List Np.Signed)(bI:l.length<=20000)(hv:∀ x∈l,Np.aC x.set.name=true)(hs:Np.sN l)(w:World)(hd:SlR bh 5 w w.heap.size v l) :
 Calls prog 200 #[.agg #[.string a,v]] w λe w'=>(∃ bv,e = .returned (.agg #[.string a,v,bv])/\SlR RTx 1 w' w'.heap.size bv (Np.dl ⟨a.data.toList,l⟩))/\Below w.heap.size w w':=by
 obtain⟨B,Bc⟩:∃ B,Np.dl ⟨a.data.toList,l⟩=B:=⟨_,rfl⟩;rw[Bc];have jI:=jq Bc;have cX:Hid (B.length=l.length):=jq (by rw[<-Bc];exact Np.qK _);clear Bc;have HV:=jq hv;have HS:=jq hs;have HD:=jq hd;obtain⟨A,c,rfl,bw,bT⟩:=al hd;clear hv hs hd;have nF:∀ (w:World),(Instr.makeMap 111 none).run prog w = .ok (.map (some w.heap.size)) (w.alloc (.map #[] 0)):=λw=>by
  simp[Instr.makeMap,Result.andThen]
 have HW:Hid (∀ o o' o'',Below w.heap.size w (((w.alloc o).alloc o').alloc o'')):=jq (λo o' o''=>(((vQ _ w).alloc (bQ _) _).alloc (by simp) _).alloc (by simp;omega) _);go_enter func200,ntmps200;go_wp2_with fail;obtain⟨w1,ah⟩:∃ w1,((w.alloc (.cells #[.string a,.slice A l.length c] 263)).alloc (.cells #[.string ⟨#[]⟩,.slice none 0 0,.slice none 0 0] 265)).alloc (.map #[] 0)=w1:=⟨_,rfl⟩;have c0:w1.cell? ⟨w.heap.size,0,none⟩=some (.string a):=by rw[<-ah];simp[go_sem]
 have c1:w1.cell? ⟨w.heap.size,1,none⟩=some (.slice A l.length c):=by rw[<-ah];simp[go_sem]
 have e0:w1.cell? ⟨w.heap.size+1,0,none⟩=some (.string ⟨#[]⟩):=by rw[<-ah];simp[go_sem]
 have e1:w1.cell? ⟨w.heap.size+1,1,none⟩=some (.slice none 0 0):=by rw[<-ah];simp[go_sem]
 have e2:w1.cell? ⟨w.heap.size+1,2,none⟩=some (.slice none 0 0):=by rw[<-ah];simp[go_sem]
 have du:w1.heap.size=w.heap.size+3:=by rw[<-ah];simp
 have Ik:Hid (cA (w.heap.size+1+1) [] w1):=jq (by
  have:=cA.made ((w.alloc (.cells #[.string a,.slice A l.length c] 263)).alloc (.cells #[.string ⟨#[]⟩,.slice none 0 0,.slice none 0 0] 265))
  rw[<-ah];simpa using this)
 have aq:Hid (Below w.heap.size w w1):=jq (by rw[<-ah];exact HW.out _ _ _);have Pt:Hid (∀ j,w1.frozen? ⟨w.heap.size+1,j,none⟩=false):=jq (λj=>by rw[<-ah];simp[go_sem]);have HC:=jq (And.intro c0 (And.intro c1 (And.intro e0 (And.intro e1 e2))));rw[ah];clear ah c0 c1 e0 e1 e2;obtain⟨M,hM⟩:∃ M,w.heap.size+1+1=M:=⟨_,rfl⟩;rw[hM] at Ik |-;go_loopw [18] (λi wr=>LayA M w1 a.data.toList l i wr) (λi _=>l.length - (intOf i).toNat)
 case atStart=>exact⟨0,jQ _,rfl,jq (vQ _ _),Ik⟩
 case round=>
  obtain⟨k,hk,rfl,HB,HM⟩:=hrel;have an:=HB.out.size;obtain⟨c0,c1,e0,e1,e2⟩:=HC.out;have d0:wr.cell? ⟨w.heap.size,0,none⟩=some (.string a):=by rw[HB.out.cell (by simp;omega)];exact c0
  have d1:wr.cell? ⟨w.heap.size,1,none⟩=some (.slice A l.length c):=by rw[HB.out.cell (by simp;omega)];exact c1
  have ou:=HM.out.lt;have cZ:w.heap.size<wr.heap.size:=by omega
  have aw:Hid (Below w.heap.size w wr):=jq (aq.out.trans (HB.out.mono (by omega)));have Pw:Hid (∀ j,wr.frozen? ⟨w.heap.size+1,j,none⟩=false):=jq (λj=>(HB.out.frozen (p:=⟨w.heap.size+1,j,none⟩) (by dsimp only;omega)).trans (Pt.out j));have wv:Hid (wr.cell? ⟨w.heap.size+1,0,none⟩=some (.string ⟨#[]⟩)/\wr.cell? ⟨w.heap.size+1,1,none⟩=some (.slice none 0 0)/\wr.cell? ⟨w.heap.size+1,2,none⟩=some (.slice none 0 0)):=jq ⟨(HB.out.cell (by dsimp only;omega)).trans e0,(HB.out.cell (by dsimp only;omega)).trans e1,(HB.out.cell (by dsimp only;omega)).trans e2⟩;clear c0 c1 e0 e1 e2;by_cases aa:k<l.length
  ·have ab:=aQ aa;obtain⟨b,o,c',sn,dv,sv,hA,bJ,_,ay,cw,aW,aM,f0,f1,f2,f3,f4⟩:=eq (HD.out.keep aX aw.out) ab
   cases hA
   have ht:l.take (k+1)=l.take k ++ [l[k]]:=fQ aa;have PQ:Hid (l[k].set.type=2->(fy a.data.toList (l.take k)).lookup sn.data.toList=none):=jq (λh2=>by
    refine (AQ _ _ _).2 λy hy h3 he=>?_;obtain⟨j,hj,rfl⟩:=nQ.1 hy;rw[List.length_take] at hj;have h4:=GE HS.out (aQ (show j<l.length by omega)) ab (by omega);rw[List.getElem_take] at h3 he;have h5:Np.dM l[j].set=Np.dM l[k].set:=by unfold Np.dM;rw[h3,h2,he,ay]
    rw[h5,Np.vP.self] at h4;omega)
   have HT:Hid (∀ kv,(if l[k].set.type=2/\l[k].set.name≠a.data.toList then fy a.data.toList (l.take k) ++ [(l[k].set.name,.bool true)] else fy a.data.toList (l.take k))=kv->fy a.data.toList (l.take (k+1))=kv):=jq (λkv h=>by rw[ht,RV];exact h);generalize hx:l[k]=x at *;clear hx ht;obtain⟨Ad,cd,rfl,_,_⟩:=al aW;obtain⟨As,cs,rfl,_,_⟩:=al aM;have aL:=jq ay;have eW:Hid (∀ o,Below wr.heap.size wr (wr.alloc o)):=jq (λo=>(vQ _ _).alloc (bQ _) _);have aZ:Hid (∀ o,Below M w1 (wr.alloc o)):=jq (λo=>HB.out.alloc (by omega) _);clear ab ay aW aM;by_cases h2:x.set.type=2
   ·have ac:(x.set.type == 2)=true:=by simpa using h2
    by_cases hn:x.set.name=a.data.toList
    ·have il:(!sn.toList == a.toList)=false:=by rw[dQ,dQ,aL.out,hn];simp
     have jN:=jq (HT.out _ (Qc λh=>h.2 hn));clear h2 hn;go_wp2_with fail;go_roundw
     case rel=>exact⟨k+1,by omega,by go_num,jq (aZ.out _),jq (by rw[jN.out];exact HM.out.keep (eW.out _) ou)⟩
     case measure=>simp[intOf] <;> omega
    ·have il:(!sn.toList == a.toList)=true:=by rw[dQ,dQ,aL.out];simpa using hn
     have jN:=jq (HT.out _ (Qb ⟨h2,hn⟩));have jk:=jq (PQ.out h2);clear h2 hn;go_wp2_with (at_mapUpdate;refine Oq _ rfl _ _ _ 111 rfl 9 4 underlying111 underlying9 M (fy a.data.toList (l.take k)) rfl (HM.out.keep (eW.out _) ou) sn.data.toList rfl (.bool true) rfl jk.out ?_;intro w5 lj kH;have H5:=jq (And.intro lj kH);clear lj kH);go_roundw
     case rel=>exact⟨k+1,by omega,by go_num,jq ((aZ.out _).trans (H5.out.2.below (bQ _))),jq (by rw[jN.out,<-aL.out];exact H5.out.1)⟩
     case measure=>simp[intOf] <;> omega
   ·have ac:(x.set.type == 2)=false:=by simpa using h2
    have jN:=jq (HT.out _ (Qc λh=>h2 h.1));clear h2;go_wp2_with fail;go_roundw
    case rel=>exact⟨k+1,by omega,by go_num,jq (aZ.out _),jq (by rw[jN.out];exact HM.out.keep (eW.out _) ou)⟩
    case measure=>simp[intOf] <;> omega
  ·have lh:k=l.length:=by omega
   subst lh;rw[List.take_length] at HM;go_wp2_with fail;have fC:=Gk l.length bI;have HZ:Hid (∀ j,j<l.length->(madeCells #[Value.string ⟨#[]⟩] l.length)[j]?=some (.string ⟨#[]⟩)):=jq (λj hj=>Gj _ _ hj);generalize madeCells #[Value.string ⟨#[]⟩] l.length=Z at fC HZ;have zT:=jq (And.intro d0 d1);have Ax:Hid (∀ (Bl Bs:Nat) (w5:World),Below wr.heap.size wr w5->M<Bl->M<Bs->Bl≠Bs->Bl<w5.heap.size->Bs<w5.heap.size->w5.cell? ⟨Bl,0,none⟩=some (.string a)->w5.cell? ⟨Bl,1,none⟩=some (.slice A l.length c)->w5.cell? ⟨Bl,2,none⟩=some (.slice (some ⟨Bs,0,none⟩) l.length l.length)->(∀ j,j<l.length->w5.cell? ⟨Bs,j,none⟩=some (.string ⟨#[]⟩))->(∀ j,w5.frozen? ⟨Bs,j,none⟩=false)->
    LayB w.heap.size M Bl Bs/\LayK w M Bl Bs a (.slice A l.length c) (.slice (some ⟨Bs,0,none⟩) l.length l.length) (fy a.data.toList l) w5 (List.replicate l.length [])):=jq (λBl Bs w5 hb h1 h2 h3 h4 h5 k0 k1 k2 hz q9=>by
    refine⟨⟨by omega,h1,h2,h3⟩,aw.out.trans (hb.mono (by omega)),(hb.cell (by dsimp only;omega)).trans zT.out.1,(hb.cell (by dsimp only;omega)).trans zT.out.2,(hb.cell (by dsimp only;omega)).trans wv.out.1,(hb.cell (by dsimp only;omega)).trans wv.out.2.1,(hb.cell (by dsimp only;omega)).trans wv.out.2.2,k0,k1,k2,HM.out.keep hb ou,λj x hx=>?_,h4,h5,λj=>(hb.frozen (by dsimp only;omega)).trans (Pw.out j)⟩;rw[List.getElem?_replicate] at hx;split at hx
    ·rename_i hj
     cases hx
     exact⟨⟨#[]⟩,rfl,by decide,hz j hj,q9 j⟩
    ·cases hx)
   go_region
   ·obtain⟨w5,aS⟩:∃ w5,((wr.alloc (.cells Z 9)).alloc (.cells #[.string a,.slice A l.length c,.slice (some ⟨wr.heap.size,0,none⟩) l.length l.length] 265)).drew=w5:=⟨_,rfl⟩;have aI:Below wr.heap.size wr w5:=by rw[<-aS];exact (((vQ _ _).alloc (bQ _) _).alloc (by simp) _).drew
    have hp:=Ax.out (wr.heap.size+1) wr.heap.size w5 aI (by omega) (by omega) (by omega) (by rw[<-aS];simp) (by rw[<-aS];simp;omega) (by rw[<-aS];simp[go_sem]) (by rw[<-aS];simp[go_sem]) (by rw[<-aS];simp[go_sem]) (λj hj=>by rw[<-aS];simp[go_sem];exact HZ.out j hj) (λj=>by rw[<-aS];simp[go_sem]);rw[aS];obtain⟨xV,xW⟩:=hp;have iD:=jq xV;have pb:=jq xW;clear aS aI xV xW fC Ax HZ wv zT HB aw d0 d1;generalize wr.heap.size+1=X1 at *;generalize wr.heap.size=X0 at *;have c50:=pb.out.b0;have c51:=pb.out.b1;go_wp2_with fail;clear c50 c51;go_loopw [7,51] (λvc i wr=>Ja w M X1 X0 a (.slice A l.length c) (.slice (some ⟨X0,0,none⟩) l.length l.length) (fy a.data.toList l) B (Np.bZ ⟨a.data.toList,l⟩) l vc i wr) (λ_ i _=>l.length - (intOf i).toNat)
    case atStart=>exact⟨0,⟨#[]⟩,jQ _,rfl,rfl,by decide,jq pb.out,jq (.inl rfl),jq (by rw[<-jI.out];rfl)⟩
    case round=>
     obtain⟨k,sc,hk,rfl,rfl,j8,HK,sE,HE⟩:=hrel;have ld:=HK.out.l2;have bG:=HK.out.blt;have yj:=HK.out.slt;have ou:=HK.out.map.lt;have fo:=HK.out.below.size;by_cases aa:k<l.length
     ·have ab:=aQ aa;obtain⟨b,o,c',sn,dv,sv,hA,bJ,_,ay,cw,aW,aM,f0,f1,f2,f3,f4⟩:=eq (HD.out.keep aX HK.out.below) ab
      cases hA
      have gi:Hid (Np.aC sn.data.toList=true):=jq (by rw[ay];exact HV.out _ (List.getElem_mem aa));have cP:Hid (B[k]?=some (Np.cS (Np.bZ ⟨a.data.toList,l⟩) sc.data.toList sn.data.toList)/\B.drop (k+1)=Np.mr (Np.bZ ⟨a.data.toList,l⟩) (Np.cS (Np.bZ ⟨a.data.toList,l⟩) sc.data.toList sn.data.toList) (l.drop (k+1))):=jq (by
       have h1:=HE.out;rw[sQ aa,Np.mr,<-ay] at h1;refine⟨?_,?_⟩
       ·have:=List.getElem?_drop (xs:=B) (i:=k) (j:=0)
        rw[h1,Nat.add_zero] at this;exact this.symm
       ·have:=Qd (List.drop 1) h1
        rw[List.drop_drop] at this;simpa using this)
      obtain⟨s0,_,_,fP,jZ⟩:=HK.out.row k [] (by
       rw[oQ (by rw[List.length_take];omega),List.length_take,cX.out,show k - min k l.length=0 by omega,List.getElem?_replicate,Qb (by omega)])
      have jM:Hid (∀ (wx:World) (s:ByteArray),Below wr.heap.size wr wx->s.size<=140737488355328->s.data.toList=Np.cS (Np.bZ ⟨a.data.toList,l⟩) sc.data.toList sn.data.toList->LayK w M X1 X0 a (.slice (some ⟨b,o,none⟩) l.length c) (.slice (some ⟨X0,0,none⟩) l.length l.length) (fy a.data.toList l) (wx.setCell ⟨X0,k,none⟩ (.string s)) (B.take (k+1)++List.replicate (l.length - (k+1)) [])):=jq (λwx s hb an hs=>by
       rw[<-Nk cX.out cP.out.1,<-hs];exact (HK.out.keep iD.out hb).store iD.out (by rw[List.length_append,List.length_take,List.length_replicate,cX.out];omega) s an)
      have DD:=jq HK.out.map;have eW:Hid (∀ o,Below wr.heap.size wr (wr.alloc o)):=jq (λo=>(vQ _ _).alloc (bQ _) _);generalize hx:l[k]=x at *;clear hx ab;obtain⟨Ad,cd,rfl,_,_⟩:=al aW;obtain⟨As,cs,rfl,_,_⟩:=al aM;clear ay aW aM;have bO:(0:Int)<=(k:Int):=by omega
      have bM:(k:Int)<(l.length:Int):=by omega
      obtain⟨cb,gH⟩:∃ cb,Np.bZ ⟨a.data.toList,l⟩ sn.data.toList=cb:=⟨_,rfl⟩;have lz:=jq gH;have gz:Hid (((fy a.data.toList l).lookup sn.data.toList).getD (.bool false) = .bool cb):=jq (by rw[<-gH];exact (AQ _ _ l).1);clear gH;have sk:Hid (∀ wx,Below wr.heap.size wr wx->Sem.run prog (Instr.lookup 111 (.map (some M)) (.string sn) false) wx = .ok (.bool cb) wx):=jq (λwx hb=>by
       have:=Cy (P:=prog) wx 111 9 4 underlying111 underlying9 M (fy a.data.toList l) (DD.out.keep hb ou) sn.data.toList (.bool false) (by kernel_rfl)
       rw[gz.out] at this;exact this)
      by_cases hce:sc.data.toList = []
      ·obtain rfl:sc=⟨#[]⟩:=kL hce;have eB:Hid (cb=true->sn.data.toList=Np.cS (Np.bZ ⟨a.data.toList,l⟩) [] sn.data.toList):=jq (λh=>by
        unfold Np.cS;rw[lz.out,h];simp)
       have iE:Hid (cb=false->[]=Np.cS (Np.bZ ⟨a.data.toList,l⟩) [] sn.data.toList):=jq (λh=>by
        unfold Np.cS;rw[lz.out,h];simp)
       clear hce
       cases cb with
       | true=>
        have eI:∀ o,Sem.run prog (Instr.lookup 111 (.map (some M)) (.string sn) false) (wr.alloc o) = .ok (.bool true) (wr.alloc o):=λo=>sk.out _ (eW.out o);go_wp2_with fail;go_roundw
        case rel=>exact⟨k+1,sn,by omega,by go_num,rfl,cw,jq ((jM.out wr sn (vQ _ _) cw (eB.out (by simp))).keep iD.out ((vQ _ _).alloc (bQ _) _)),jq (.inr gi.out),jq (by rw[eB.out (by simp)];exact cP.out.2)⟩
        case measure=>simp[intOf] <;> omega
       | false=>
        have eI:∀ o,Sem.run prog (Instr.lookup 111 (.map (some M)) (.string sn) false) (wr.alloc o) = .ok (.bool false) (wr.alloc o):=λo=>sk.out _ (eW.out o);go_wp2_with fail;go_roundw
        case rel=>exact⟨k+1,⟨#[]⟩,by omega,by go_num,rfl,by decide,jq ((jM.out wr ⟨#[]⟩ (vQ _ _) (by decide) (iE.out (by simp))).keep iD.out ((vQ _ _).alloc (bQ _) _)),jq (.inl rfl),jq (by rw[show (⟨#[]⟩:ByteArray).data.toList = [] from rfl,iE.out (by simp)];exact cP.out.2)⟩
        case measure=>simp[intOf] <;> omega
      ·have Ux:(!sc.toList == [])=true:=by rw[dQ];simpa using hce
       have vj:(sc.toList == [])=false:=by rw[dQ];simpa using hce
       have jl:Hid (Np.aC sc.data.toList=true):=jq (sE.out.resolve_left hce);have ko:=jq hce;have S5:M<wr.heap.size:=ou;clear hce;go_wp2_with fail;refine (GQ sn sc cw j8 _ gi.out jl.out).mono ?_;rintro e w2 ⟨rfl,ac⟩;have aj:=jq ((eW.out _).trans (ac.mono (by simp)));have dI:w2.cell? ⟨X1,2,none⟩=some (.slice (some ⟨X0,0,none⟩) l.length l.length):=(aj.out.cell (by dsimp only;omega)).trans ld;have gX:w2.cell? ⟨X0,k,none⟩=some (.string s0):=(aj.out.cell (by dsimp only;omega)).trans fP;have aJ:=aj.out.size;have TW:w2.frozen? ⟨X0,k,none⟩=false:=(aj.out.frozen (by dsimp only;omega)).trans jZ;clear ac ld fP jZ
       cases dE:Np.bg sn.data.toList sc.data.toList with
       | true=>
        have eB:Hid (sc.data.toList=Np.cS (Np.bZ ⟨a.data.toList,l⟩) sc.data.toList sn.data.toList):=jq (by
         unfold Np.cS;simp[ko.out,dE])
        clear dE;go_wp2_with fail;go_roundw
        case rel=>exact⟨k+1,sc,by omega,by go_num,rfl,j8,jq (jM.out _ sc aj.out j8 eB.out),jq (.inr jl.out),jq (by rw[eB.out];exact cP.out.2)⟩
        case measure=>simp[intOf] <;> omega
       | false=>
        have eB:Hid (cb=true->sn.data.toList=Np.cS (Np.bZ ⟨a.data.toList,l⟩) sc.data.toList sn.data.toList):=jq (λh=>by
         unfold Np.cS;rw[lz.out,h];simp[dE,ko.out])
        have iE:Hid (cb=false->[]=Np.cS (Np.bZ ⟨a.data.toList,l⟩) sc.data.toList sn.data.toList):=jq (λh=>by
         unfold Np.cS;rw[lz.out,h];simp[dE,ko.out])
        clear dE;have eI:=sk.out w2 aj.out
        cases cb with
        | true=>
         go_wp2_with fail;go_roundw
         case rel=>exact⟨k+1,sn,by omega,by go_num,rfl,cw,jq (jM.out _ sn aj.out cw (eB.out (by simp))),jq (.inr gi.out),jq (by rw[eB.out (by simp)];exact cP.out.2)⟩
         case measure=>simp[intOf] <;> omega
        | false=>
         go_wp2_with fail;go_roundw
         case rel=>exact⟨k+1,⟨#[]⟩,by omega,by go_num,rfl,by decide,jq (jM.out _ ⟨#[]⟩ aj.out (by decide) (iE.out (by simp))),jq (.inl rfl),jq (by rw[show (⟨#[]⟩:ByteArray).data.toList = [] from rfl,iE.out (by simp)];exact cP.out.2)⟩
         case measure=>simp[intOf] <;> omega
     ·have yC:k=l.length:=by omega
      have kP:Hid (B.take k++List.replicate (l.length - k) []=B):=jq (by rw[yC,Nat.sub_self,List.replicate_zero,List.append_nil,kQ (by rw[cX.out];exact bQ _)]);clear yC;have g0:=HK.out.l0;have g1:=HK.out.l1;have r0:=HK.out.r0;have r1:=HK.out.r1;have r2:=HK.out.r2;have rf0:=HK.out.rf 0;have rf1:=HK.out.rf 1;have rf2:=HK.out.rf 2;go_wp2_with fail;obtain⟨w6,cg⟩:∃ w6,((wr.setCell ⟨w.heap.size+1,0,none⟩ (.string a)).setCell ⟨w.heap.size+1,1,none⟩ (.slice A l.length c)).setCell ⟨w.heap.size+1,2,none⟩ (.slice (some ⟨X0,0,none⟩) l.length l.length)=w6:=⟨_,rfl⟩;have q0:w6.cell? ⟨w.heap.size+1,0,none⟩=some (.string a):=by rw[<-cg];simp[go_sem,r0]
      have q1:w6.cell? ⟨w.heap.size+1,1,none⟩=some (.slice A l.length c):=by rw[<-cg];simp[go_sem,r1]
      have q2:w6.cell? ⟨w.heap.size+1,2,none⟩=some (.slice (some ⟨X0,0,none⟩) l.length l.length):=by rw[<-cg];simp[go_sem,r2]
      have h1:=iD.out.map;have h2:=iD.out.row;have dg:Hid (Below w.heap.size w w6):=jq (by rw[<-cg];exact ((HK.out.below.setCell (by simp) _).setCell (by simp) _).setCell (by simp) _);have D1:Hid (SlR RTx 1 w6 w6.heap.size (.slice (some ⟨X0,0,none⟩) l.length l.length) B):=jq (by
       have h3:=HK.out.row;rw[kP.out] at h3;have h4:=((h3.other (p:=⟨w.heap.size+1,0,none⟩) (by simp;omega) (.string a)).other (p:=⟨w.heap.size+1,1,none⟩) (by simp;omega) (.slice A l.length c)).other (p:=⟨w.heap.size+1,2,none⟩) (by simp;omega) (.slice (some ⟨X0,0,none⟩) l.length l.length);rw[cg] at h4;have h5:=h4.slr (by rw[<-cg];simp;omega) (by rw[cX.out];omega);rw[cX.out] at h5;exact h5)
      rw[cg];clear cg r0 r1 r2 rf0 rf1 rf2 g0 g1 ld;refine bodyPost_ret (v:=.agg #[.string a,.slice A l.length c,.slice (some ⟨X0,0,none⟩) l.length l.length]) ?_ rfl ⟨⟨_,rfl,D1.out⟩,dg.out⟩;simp[results,results200,go_sem,q0,q1,q2]
   ·obtain⟨w5,aS⟩:∃ w5,((wr.alloc (.cells #[.string a,.slice A l.length c,.slice (some ⟨wr.heap.size+1,0,none⟩) l.length l.length] 265)).alloc (.cells Z 9)).drew=w5:=⟨_,rfl⟩;have aI:Below wr.heap.size wr w5:=by rw[<-aS];exact (((vQ _ _).alloc (bQ _) _).alloc (by simp) _).drew
    have hp:=Ax.out wr.heap.size (wr.heap.size+1) w5 aI (by omega) (by omega) (by omega) (by rw[<-aS];simp;omega) (by rw[<-aS];simp) (by rw[<-aS];simp[go_sem]) (by rw[<-aS];simp[go_sem]) (by rw[<-aS];simp[go_sem]) (λj hj=>by rw[<-aS];simp[go_sem];exact HZ.out j hj) (λj=>by rw[<-aS];simp[go_sem]);rw[aS];obtain⟨xV,xW⟩:=hp;have iD:=jq xV;have pb:=jq xW;clear aS aI xV xW fC Ax HZ wv zT HB aw d0 d1;generalize wr.heap.size+1=X0 at *;generalize wr.heap.size=X1 at *;have c50:=pb.out.b0;have c51:=pb.out.b1;go_wp2_with fail;clear c50 c51;go_loopw [7,51] (λvc i wr=>Ja w M X1 X0 a (.slice A l.length c) (.slice (some ⟨X0,0,none⟩) l.length l.length) (fy a.data.toList l) B (Np.bZ ⟨a.data.toList,l⟩) l vc i wr) (λ_ i _=>l.length - (intOf i).toNat)
    case atStart=>exact⟨0,⟨#[]⟩,jQ _,rfl,rfl,by decide,jq pb.out,jq (.inl rfl),jq (by rw[<-jI.out];rfl)⟩
    case round=>
     obtain⟨k,sc,hk,rfl,rfl,j8,HK,sE,HE⟩:=hrel;have ld:=HK.out.l2;have bG:=HK.out.blt;have yj:=HK.out.slt;have ou:=HK.out.map.lt;have fo:=HK.out.below.size;by_cases aa:k<l.length
     ·have ab:=aQ aa;obtain⟨b,o,c',sn,dv,sv,hA,bJ,_,ay,cw,aW,aM,f0,f1,f2,f3,f4⟩:=eq (HD.out.keep aX HK.out.below) ab
      cases hA
      have gi:Hid (Np.aC sn.data.toList=true):=jq (by rw[ay];exact HV.out _ (List.getElem_mem aa));have cP:Hid (B[k]?=some (Np.cS (Np.bZ ⟨a.data.toList,l⟩) sc.data.toList sn.data.toList)/\B.drop (k+1)=Np.mr (Np.bZ ⟨a.data.toList,l⟩) (Np.cS (Np.bZ ⟨a.data.toList,l⟩) sc.data.toList sn.data.toList) (l.drop (k+1))):=jq (by
       have h1:=HE.out;rw[sQ aa,Np.mr,<-ay] at h1;refine⟨?_,?_⟩
       ·have:=List.getElem?_drop (xs:=B) (i:=k) (j:=0)
        rw[h1,Nat.add_zero] at this;exact this.symm
       ·have:=Qd (List.drop 1) h1
        rw[List.drop_drop] at this;simpa using this)
      obtain⟨s0,_,_,fP,jZ⟩:=HK.out.row k [] (by
       rw[oQ (by rw[List.length_take];omega),List.length_take,cX.out,show k - min k l.length=0 by omega,List.getElem?_replicate,Qb (by omega)])
      have jM:Hid (∀ (wx:World) (s:ByteArray),Below wr.heap.size wr wx->s.size<=140737488355328->s.data.toList=Np.cS (Np.bZ ⟨a.data.toList,l⟩) sc.data.toList sn.data.toList->LayK w M X1 X0 a (.slice (some ⟨b,o,none⟩) l.length c) (.slice (some ⟨X0,0,none⟩) l.length l.length) (fy a.data.toList l) (wx.setCell ⟨X0,k,none⟩ (.string s)) (B.take (k+1)++List.replicate (l.length - (k+1)) [])):=jq (λwx s hb an hs=>by
       rw[<-Nk cX.out cP.out.1,<-hs];exact (HK.out.keep iD.out hb).store iD.out (by rw[List.length_append,List.length_take,List.length_replicate,cX.out];omega) s an)
      have DD:=jq HK.out.map;have eW:Hid (∀ o,Below wr.heap.size wr (wr.alloc o)):=jq (λo=>(vQ _ _).alloc (bQ _) _);generalize hx:l[k]=x at *;clear hx ab;obtain⟨Ad,cd,rfl,_,_⟩:=al aW;obtain⟨As,cs,rfl,_,_⟩:=al aM;clear ay aW aM;have bO:(0:Int)<=(k:Int):=by omega
      have bM:(k:Int)<(l.length:Int):=by omega
      obtain⟨cb,gH⟩:∃ cb,Np.bZ ⟨a.data.toList,l⟩ sn.data.toList=cb:=⟨_,rfl⟩;have lz:=jq gH;have gz:Hid (((fy a.data.toList l).lookup sn.data.toList).getD (.bool false) = .bool cb):=jq (by rw[<-gH];exact (AQ _ _ l).1);clear gH;have sk:Hid (∀ wx,Below wr.heap.size wr wx->Sem.run prog (Instr.lookup 111 (.map (some M)) (.string sn) false) wx = .ok (.bool cb) wx):=jq (λwx hb=>by
       have:=Cy (P:=prog) wx 111 9 4 underlying111 underlying9 M (fy a.data.toList l) (DD.out.keep hb ou) sn.data.toList (.bool false) (by kernel_rfl)
       rw[gz.out] at this;exact this)
      by_cases hce:sc.data.toList = []
      ·obtain rfl:sc=⟨#[]⟩:=kL hce;have eB:Hid (cb=true->sn.data.toList=Np.cS (Np.bZ ⟨a.data.toList,l⟩) [] sn.data.toList):=jq (λh=>by
        unfold Np.cS;rw[lz.out,h];simp)
       have iE:Hid (cb=false->[]=Np.cS (Np.bZ ⟨a.data.toList,l⟩) [] sn.data.toList):=jq (λh=>by
        unfold Np.cS;rw[lz.out,h];simp)
       clear hce
       cases cb with
       | true=>
        have eI:∀ o,Sem.run prog (Instr.lookup 111 (.map (some M)) (.string sn) false) (wr.alloc o) = .ok (.bool true) (wr.alloc o):=λo=>sk.out _ (eW.out o);go_wp2_with fail;go_roundw
        case rel=>exact⟨k+1,sn,by omega,by go_num,rfl,cw,jq ((jM.out wr sn (vQ _ _) cw (eB.out (by simp))).keep iD.out ((vQ _ _).alloc (bQ _) _)),jq (.inr gi.out),jq (by rw[eB.out (by simp)];exact cP.out.2)⟩
        case measure=>simp[intOf] <;> omega
       | false=>
        have eI:∀ o,Sem.run prog (Instr.lookup 111 (.map (some M)) (.string sn) false) (wr.alloc o) = .ok (.bool false) (wr.alloc o):=λo=>sk.out _ (eW.out o);go_wp2_with fail;go_roundw
        case rel=>exact⟨k+1,⟨#[]⟩,by omega,by go_num,rfl,by decide,jq ((jM.out wr ⟨#[]⟩ (vQ _ _) (by decide) (iE.out (by simp))).keep iD.out ((vQ _ _).alloc (bQ _) _)),jq (.inl rfl),jq (by rw[show (⟨#[]⟩:ByteArray).data.toList = [] from rfl,iE.out (by simp)];exact cP.out.2)⟩
        case measure=>simp[intOf] <;> omega
      ·have Ux:(!sc.toList == [])=true:=by rw[dQ];simpa using hce
       have vj:(sc.toList == [])=false:=by rw[dQ];simpa using hce
       have jl:Hid (Np.aC sc.data.toList=true):=jq (sE.out.resolve_left hce);have ko:=jq hce;have S5:M<wr.heap.size:=ou;clear hce;go_wp2_with fail;refine (GQ sn sc cw j8 _ gi.out jl.out).mono ?_;rintro e w2 ⟨rfl,ac⟩;have aj:=jq ((eW.out _).trans (ac.mono (by simp)));have dI:w2.cell? ⟨X1,2,none⟩=some (.slice (some ⟨X0,0,none⟩) l.length l.length):=(aj.out.cell (by dsimp only;omega)).trans ld;have gX:w2.cell? ⟨X0,k,none⟩=some (.string s0):=(aj.out.cell (by dsimp only;omega)).trans fP;have aJ:=aj.out.size;have TW:w2.frozen? ⟨X0,k,none⟩=false:=(aj.out.frozen (by dsimp only;omega)).trans jZ;clear ac ld fP jZ
       cases dE:Np.bg sn.data.toList sc.data.toList with
       | true=>
        have eB:Hid (sc.data.toList=Np.cS (Np.bZ ⟨a.data.toList,l⟩) sc.data.toList sn.data.toList):=jq (by
         unfold Np.cS;simp[ko.out,dE])
        clear dE;go_wp2_with fail;go_roundw
        case rel=>exact⟨k+1,sc,by omega,by go_num,rfl,j8,jq (jM.out _ sc aj.out j8 eB.out),jq (.inr jl.out),jq (by rw[eB.out];exact cP.out.2)⟩
        case measure=>simp[intOf] <;> omega
       | false=>
        have eB:Hid (cb=true->sn.data.toList=Np.cS (Np.bZ ⟨a.data.toList,l⟩) sc.data.toList sn.data.toList):=jq (λh=>by
         unfold Np.cS;rw[lz.out,h];simp[dE,ko.out])
        have iE:Hid (cb=false->[]=Np.cS (Np.bZ ⟨a.data.toList,l⟩) sc.data.toList sn.data.toList):=jq (λh=>by
         unfold Np.cS;rw[lz.out,h];simp[dE,ko.out])
        clear dE;have eI:=sk.out w2 aj.out
        cases cb with
        | true=>
         go_wp2_with fail;go_roundw
         case rel=>exact⟨k+1,sn,by omega,by go_num,rfl,cw,jq (jM.out _ sn aj.out cw (eB.out (by simp))),jq (.inr gi.out),jq (by rw[eB.out (by simp)];exact cP.out.2)⟩
         case measure=>simp[intOf] <;> omega
        | false=>
         go_wp2_with fail;go_roundw
         case rel=>exact⟨k+1,⟨#[]⟩,by omega,by go_num,rfl,by decide,jq (jM.out _ ⟨#[]⟩ aj.out (by decide) (iE.out (by simp))),jq (.inl rfl),jq (by rw[show (⟨#[]⟩:ByteArray).data.toList = [] from rfl,iE.out (by simp)];exact cP.out.2)⟩
         case measure=>simp[intOf] <;> omega
     ·have yC:k=l.length:=by omega
      have kP:Hid (B.take k++List.replicate (l.length - k) []=B):=jq (by rw[yC,Nat.sub_self,List.replicate_zero,List.append_nil,kQ (by rw[cX.out];exact bQ _)]);clear yC;have g0:=HK.out.l0;have g1:=HK.out.l1;have r0:=HK.out.r0;have r1:=HK.out.r1;have r2:=HK.out.r2;have rf0:=HK.out.rf 0;have rf1:=HK.out.rf 1;have rf2:=HK.out.rf 2;go_wp2_with fail;obtain⟨w6,cg⟩:∃ w6,((wr.setCell ⟨w.heap.size+1,0,none⟩ (.string a)).setCell ⟨w.heap.size+1,1,none⟩ (.slice A l.length c)).setCell ⟨w.heap.size+1,2,none⟩ (.slice (some ⟨X0,0,none⟩) l.length l.length)=w6:=⟨_,rfl⟩;have q0:w6.cell? ⟨w.heap.size+1,0,none⟩=some (.string a):=by rw[<-cg];simp[go_sem,r0]
      have q1:w6.cell? ⟨w.heap.size+1,1,none⟩=some (.slice A l.length c):=by rw[<-cg];simp[go_sem,r1]
      have q2:w6.cell? ⟨w.heap.size+1,2,none⟩=some (.slice (some ⟨X0,0,none⟩) l.length l.length):=by rw[<-cg];simp[go_sem,r2]
      have h1:=iD.out.map;have h2:=iD.out.row;have dg:Hid (Below w.heap.size w w6):=jq (by rw[<-cg];exact ((HK.out.below.setCell (by simp) _).setCell (by simp) _).setCell (by simp) _);have D1:Hid (SlR RTx 1 w6 w6.heap.size (.slice (some ⟨X0,0,none⟩) l.length l.length) B):=jq (by
       have h3:=HK.out.row;rw[kP.out] at h3;have h4:=((h3.other (p:=⟨w.heap.size+1,0,none⟩) (by simp;omega) (.string a)).other (p:=⟨w.heap.size+1,1,none⟩) (by simp;omega) (.slice A l.length c)).other (p:=⟨w.heap.size+1,2,none⟩) (by simp;omega) (.slice (some ⟨X0,0,none⟩) l.length l.length);rw[cg] at h4;have h5:=h4.slr (by rw[<-cg];simp;omega) (by rw[cX.out];omega);rw[cX.out] at h5;exact h5)
      rw[cg];clear cg r0 r1 r2 rf0 rf1 rf2 g0 g1 ld;refine bodyPost_ret (v:=.agg #[.string a,.slice A l.length c,.slice (some ⟨X0,0,none⟩) l.length l.length]) ?_ rfl ⟨⟨_,rfl,D1.out⟩,dg.out⟩;simp[results,results200,go_sem,q0,q1,q2]
end
end Go.Proofs.YtfnopgdcaanaiaaGreatDoor
