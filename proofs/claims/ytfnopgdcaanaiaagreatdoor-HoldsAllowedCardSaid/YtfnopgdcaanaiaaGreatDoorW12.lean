/- Parts of the proof. No condition. -/
import Derived.Test.YtfnopgdcaanaiaaGreatDoorW06
import Derived.Test.YtfnopgdcaanaiaaGreatDoorW07
set_option linter.all false
set_option maxRecDepth 100000
set_option maxHeartbeats 8000000
namespace Go.Proofs.YtfnopgdcaanaiaaGreatDoor
open Go.Proofs.Tryz
section
open Go.RowKit Go.Sort Go.Shelf
structure SpBox(W:World)(b:Nat)(f u:Int):Prop where
 c0:W.cell? ⟨b,0,none⟩=some (.int .i64 f)
 c1:W.cell? ⟨b,1,none⟩=some (.int .i64 u)
 f0:W.frozen? ⟨b,0,none⟩=false
 f1:W.frozen? ⟨b,1,none⟩=false
 lt:b<W.heap.size
theorem SpBox.keep{W W':World}{b:Nat}{f u:Int}(h:SpBox W b f u){B:Nat}(hb:Below B W W')(hB:b<B):SpBox W' b f u:=
 ⟨(hb.cell hB).trans h.c0,(hb.cell hB).trans h.c1,(hb.frozen hB).trans h.f0,(hb.frozen hB).trans h.f1,lQ h.lt hb.size⟩
theorem aN.other{base:Nat}{W:World}{v:Value}{ps:List Np.Span}(h:aN base W v ps){p:Addr}(hp:p.block<base)(u:Value):aN base (W.setCell p u) v ps:=ownsRow_setCell_below h hp u
structure SpAt(W:World)(b j:Nat)(f u:Int):Prop where
 c0:W.cell? ⟨b,j,none⟩=some (.int .i64 f)
 c1:W.cell? ⟨b,j+1,none⟩=some (.int .i64 u)
theorem SpAt.keep{W W':World}{b j:Nat}{f u:Int}(h:SpAt W b j f u){B:Nat}(hb:Below B W W')(hB:b<B):SpAt W' b j f u:=⟨(hb.cell hB).trans h.c0,(hb.cell hB).trans h.c1⟩
theorem yC{W:World}{B b o n c k:Nat}{l:List Np.Span}{x:Np.Span}(h:SlR eJ 2 W B (.slice (some ⟨b,o,none⟩) n c) l)(hx:l[k]?=some x):b<B/\SpAt W b (o+k * 2) x.frm x.til:=by
 obtain⟨A',c',hA',_,_,bX⟩:=h
 cases hA'
 obtain⟨b',o',e,hA,bD,hlen,hce,hR⟩:=bX k _ hx
 cases hA
 obtain rfl:=hR;exact⟨bD,hce 0 _ rfl,hce 1 _ rfl⟩
theorem BX{α:Type}{R:aFJ α}{sz:Nat}{W:World}{B:Nat}{A:Option Addr}{n c k:Nat}{l:List α}(h:SlR R sz W B (.slice A n c) l)(hk:k<l.length):∃ b o,A=some ⟨b,o,none⟩:=by
 obtain⟨A',c',hA',_,_,bX⟩:=h
 cases hA'
 obtain⟨b',o',e,hA,_⟩:=bX k _ (aQ hk);exact⟨b',o',hA⟩
structure WithK(X:Nat)(w W:World)(v:Value)(oo:List Np.Span)(fr ti:Int)(b j:Nat)(xf xu:Int):Prop where
 below:Below X w W
 own:aN (X+1) W v oo
 box:SpBox W X fr ti
 at_:SpAt W b j xf xu
theorem WithK.keep{X:Nat}{w W W':World}{v:Value}{oo:List Np.Span}{fr ti:Int}{b j:Nat}{xf xu:Int}(h:WithK X w W v oo fr ti b j xf xu)(hb:Below W.heap.size W W')(kY:b<X):WithK X w W' v oo fr ti b j xf xu:=
 ⟨h.below.trans (hb.mono (Nat.le_of_lt h.box.lt)),h.own.keep hb,h.box.keep hb h.box.lt,h.at_.keep hb (Nat.lt_trans kY h.box.lt)⟩
end
section
open Go.RowKit
theorem PI(t:Int)(b:Bool)(w:World) :
 Calls prog 236 #[.int .i64 t,.bool b] w (aFZ w (.bool (Np.jC t b))):=by
 by_cases h3:t=3
 ·subst h3
  cases b
  all_goals
   go_enter func236,ntmps236;go_wp2_with fail;go_ret;exact⟨rfl,rfl⟩
 ·by_cases h6:t=6
  ·subst h6
   cases b
   all_goals
    go_enter func236,ntmps236;go_wp2_with fail;go_ret;exact⟨rfl,rfl⟩
  ·by_cases h4:t=4
   ·subst h4
    cases b
    all_goals
     go_enter func236,ntmps236;go_wp2_with fail;go_ret;exact⟨rfl,rfl⟩
   ·by_cases h7:t=7
    ·subst h7
     cases b
     all_goals
      go_enter func236,ntmps236;go_wp2_with fail;go_ret;exact⟨rfl,rfl⟩
    ·have HF:Hid (Np.jC t b=true):=jq (by unfold Np.jC;rw[Qc (by omega),Qc (by omega)]);have g3:(t != 3)=true:=by simpa using h3
     have g6:(t != 6)=true:=by simpa using h6
     have g4:(t != 4)=true:=by simpa using h4
     have g7:(t != 7)=true:=by simpa using h7
     rw[HF.out];clear h3 h6 h4 h7
     cases b
     all_goals
      go_enter func236,ntmps236;go_wp2_with fail;go_ret;exact⟨rfl,rfl⟩
def Np.atI(l:List Np.Signed)(n:List UInt8)(t:Int):Int:=match l.findIdx? λx=>(x.set.name == n)&&decide (x.set.type=t) with | none=>-1 | some i=>i
theorem LV{l:List Np.Signed}{n:List UInt8}{t:Int}(h:∀ (j:Nat) (x:Np.Signed),l[j]?=some x->¬ (x.set.name=n/\x.set.type=t)):Np.atI l n t = -1:=by
 unfold Np.atI
 have:l.findIdx? (λx=>(x.set.name == n)&&decide (x.set.type=t))=none:=by
  rw[List.findIdx?_eq_none_iff];intro x hx;obtain⟨j,hj,rfl⟩:=nQ.1 hx
  have:=h j _ (aQ hj)
  rw[Bool.and_eq_false_iff];by_cases e:l[j].set.name=n
  ·right;simpa using λe2=>this ⟨e,e2⟩
  ·left;simpa using e
 rw[this]
theorem Tz{l:List Np.Signed}{n:List UInt8}{t:Int}{k:Nat}{x:Np.Signed}(hx:l[k]?=some x)(he:x.set.name=n/\x.set.type=t)(h:∀ (j:Nat) (y:Np.Signed),j<k->l[j]?=some y->¬ (y.set.name=n/\y.set.type=t)):Np.atI l n t=k:=by
 unfold Np.atI;obtain⟨hk,rfl⟩:=cQ.1 hx
 have:l.findIdx? (λx=>(x.set.name == n)&&decide (x.set.type=t))=some k:=by
  rw[List.findIdx?_eq_some_iff_getElem];refine⟨hk,by simp[he.1,he.2],λj hj=>?_⟩
  have:=h j _ hj (aQ (by omega))
  simpa using this
 rw[this]
theorem LU(l:List Np.Signed)(n:List UInt8)(t:Int):(Np.atI l n t<0)↔¬ Np.jF l n t:=by
 by_cases h:Np.jF l n t
 ·obtain⟨x,hx,h1,h2⟩:=h;refine⟨λaa=>?_,λhn=>absurd ⟨x,hx,h1,h2⟩ hn⟩;unfold Np.atI at aa
  cases hf:l.findIdx? (λx=>(x.set.name == n)&&decide (x.set.type=t)) with
  | none=>
   rw[List.findIdx?_eq_none_iff] at hf
   have:=hf x hx
   simp[h1,h2] at this
  | some i=>rw[hf] at aa;dsimp only at aa;omega
 ·refine⟨λ_=>h,λ_=>?_⟩;rw[LV (λj x hx he=>h ⟨x,gQ hx,he⟩)];decide
theorem PF(a:ByteArray)(v:Value)(l:List Np.Signed)(q:ByteArray)(t:Int)(w:World)(hd:SlR bP 5 w w.heap.size v l) :
 Calls prog 235 #[.agg #[.string a,v],.agg #[.string q,.int .i64 t]] w (aFQ w.heap.size w (.int .i64 (Np.atI l q.data.toList t))):=by
 obtain⟨r,hr⟩:=aCQ (Np.atI l q.data.toList t);rw[hr];have HR:=jq hr;have HD:=jq hd;obtain⟨A,c,rfl,bq,bN⟩:=ak hd;clear hr hd;have HW:Hid (∀ o o',Below w.heap.size w ((w.alloc o).alloc o')):=jq (λo o'=>((vQ _ w).alloc (bQ _) _).alloc (by simp) _);go_enter func235,ntmps235;go_wp2_with fail;obtain⟨w1,ah⟩:=aCQ ((w.alloc (.cells #[.string a,.slice A l.length c] 44)).alloc (.cells #[.string q,.int .i64 t] 31));have c1:w1.cell? ⟨w.heap.size,1,none⟩=some (.slice A l.length c):=by rw[<-ah];simp[go_sem]
 have q0:w1.cell? ⟨w.heap.size+1,0,none⟩=some (.string q):=by rw[<-ah];simp[go_sem]
 have q1:w1.cell? ⟨w.heap.size+1,1,none⟩=some (.int .i64 t):=by rw[<-ah];simp[go_sem]
 have bk:w1.heap.size=w.heap.size+2:=by rw[<-ah];simp
 have aq:Hid (Below w.heap.size w w1):=jq (by rw[<-ah];exact HW.out _ _);rw[ah];clear ah;go_loopw [5] (λi wr=>∃ k:Nat,k<=l.length/\i = .int .i64 k/\Hid (Below w1.heap.size w1 wr)/\Hid (∀ j x,j<k->l[j]?=some x->¬ (x.set.name=q.data.toList/\x.set.type=t))) (λi _=>l.length - (intOf i).toNat)
 case atStart=>exact⟨0,jQ _,rfl,jq (vQ _ _),jq (λj g hj=>by omega)⟩
 case round=>
  obtain⟨k,hk,rfl,HB,HA⟩:=hrel;have an:=HB.out.size;have d1:wr.cell? ⟨w.heap.size,1,none⟩=some (.slice A l.length c):=aBX HB.out c1;have e0:wr.cell? ⟨w.heap.size+1,0,none⟩=some (.string q):=aBX HB.out q0;have e1:wr.cell? ⟨w.heap.size+1,1,none⟩=some (.int .i64 t):=aBX HB.out q1;have az:=aBY aq HB.out;have dJ:w.heap.size+1<wr.heap.size:=by omega
  by_cases aa:k<l.length
  ·obtain⟨x,ac⟩:∃ x,l[k]?=some x:=⟨_,aQ aa⟩;obtain⟨b,o,c',sn,dv,sv,hA,bR,_,ar,cZ,aO,bh,f0,f1,f2,f3,f4⟩:=fR (HD.out.keep bH az.out) ac
   cases hA
   have HX:=jq ac;have aS:=jq ar;have bO:Hid (¬ (x.set.name=q.data.toList/\x.set.type=t)->∀ j y,j<k+1->l[j]?=some y->¬ (y.set.name=q.data.toList/\y.set.type=t)):=jq (λh j y hj hy=>by
    by_cases e:j=k
    ·subst e;rw[ac] at hy;cases hy;exact h
    ·exact HA.out j y (by omega) hy)
   have bV:(0:Int)<=(k:Int):=by omega
   have bT:(k:Int)<(l.length:Int):=by omega
   have aB:b<wr.heap.size:=by omega
   obtain⟨b1,VQ⟩:=aCQ (sn.toList == q.toList);obtain⟨b2,VR⟩:=aCQ (x.set.type == t);have H1:Hid (b1=true↔x.set.name=q.data.toList):=jq (by rw[<-VQ,dQ,dQ,ar,beq_iff_eq]);have H2:Hid (b2=true↔x.set.type=t):=jq (by rw[<-VR,beq_iff_eq]);clear ac ar aO bh f2 f3 f4
   cases b1 with
   | false=>
    have HN:=jq (bO.out λh=>by have:=H1.out.2 h.1;cases this);go_wp2_with fail;go_quiet (fail);go_wp2_with fail;go_roundw
    case rel=>exact⟨k+1,by omega,by go_num,jq (below_drewN HB.out _),jq HN.out⟩
    case measure=>simp[intOf] <;> omega
   | true=>
    cases b2 with
    | false=>
     have HN:=jq (bO.out λh=>by have:=H2.out.2 h.2;cases this);go_wp2_with fail;go_quiet (fail);go_wp2_with fail;go_roundw
     case rel=>exact⟨k+1,by omega,by go_num,jq (below_drewN HB.out _),jq HN.out⟩
     case measure=>simp[intOf] <;> omega
    | true=>
     have HF:Hid (r=k):=jq (by rw[<-HR.out];exact Tz HX.out ⟨H1.out.1 rfl,H2.out.1 rfl⟩ HA.out);go_wp2_with fail;go_quiet (fail);go_wp2_with fail;go_ret;exact⟨jr HF.out.symm,below_drewN az.out _⟩
  ·have HF:Hid (r = -1):=jq (by rw[<-HR.out];exact LV λj x hx=>HA.out j x (by have:=(cQ.1 hx).1;omega) hx);go_wp2_with fail;go_ret;exact⟨jr HF.out.symm,az.out⟩
theorem ahK(a:ByteArray)(v:Value)(l:List Np.Signed)(w:World)(hd:SlR bP 5 w w.heap.size v l) :
 Calls prog 160 #[.agg #[.string a,v]] w (aFQ w.heap.size w (.bool (Np.yes (Np.ApexH a.data.toList l)))):=by
 obtain⟨r,hr⟩:=aCQ (Np.yes (Np.ApexH a.data.toList l));rw[hr];have HR:=jq hr;have HD:=jq hd;obtain⟨A,c,rfl,bq,bN⟩:=ak hd;clear hr hd;have HW:Hid (∀ o,Below w.heap.size w (w.alloc o)):=jq (λo=>(vQ _ w).alloc (bQ _) _);go_enter func160,ntmps160;go_wp2_with fail;obtain⟨w1,ah⟩:=aCQ (w.alloc (.cells #[.string a,.slice A l.length c] 44));have c0:w1.cell? ⟨w.heap.size,0,none⟩=some (.string a):=by rw[<-ah];simp[go_sem]
 have c1:w1.cell? ⟨w.heap.size,1,none⟩=some (.slice A l.length c):=by rw[<-ah];simp[go_sem]
 have bk:w1.heap.size=w.heap.size+1:=by rw[<-ah];simp
 have aq:Hid (Below w.heap.size w w1):=jq (by rw[<-ah];exact HW.out _);rw[ah];clear ah;refine (PF a _ l a 4 _ (HD.out.later bH dH aq.out)).mono ?_;rintro e w2 ⟨rfl,ae⟩;have aK:=ae.size;have ai:=aBY aq ae;replace c0:=aBX ae c0;replace c1:=aBX ae c1;clear ae;obtain⟨i4,If⟩:=aCQ (Np.atI l a.data.toList 4);have H4:Hid (i4<0↔¬ Np.jF l a.data.toList 4):=jq (by rw[<-If];exact LU _ _ _);rw[If];clear If;by_cases h4:i4<0
 ·have HX:Hid (r=false):=jq (by rw[<-HR.out];exact Np.aC λh=>H4.out.1 h4 h.start);go_wp2_with fail;go_ret;exact⟨ag HX.out.symm,ai.out⟩
 ·have RZ:Hid (Np.jF l a.data.toList 4):=jq (Classical.not_not.1 λh=>h4 (H4.out.2 h));go_wp2_with fail;refine (PF a _ l a 2 _ (HD.out.later bH dH ai.out)).mono ?_;rintro e w3 ⟨rfl,al⟩;have eF:=al.size;have am:=aBY ai al;replace c0:=aBX al c0;replace c1:=aBX al c1;clear al;obtain⟨i2,vu⟩:=aCQ (Np.atI l a.data.toList 2);have H2:Hid (i2<0↔¬ Np.jF l a.data.toList 2):=jq (by rw[<-vu];exact LU _ _ _);rw[vu];clear vu;by_cases h2:i2<0
  ·have HX:Hid (r=false):=jq (by rw[<-HR.out];exact Np.aC λh=>H2.out.1 h2 h.server);go_wp2_with fail;go_ret;exact⟨ag HX.out.symm,am.out⟩
  ·have y8:Hid (Np.jF l a.data.toList 2):=jq (Classical.not_not.1 λh=>h2 (H2.out.2 h));go_wp2_with fail;go_loopw [3] (λi wr=>∃ k:Nat,k<=l.length/\i = .int .i64 k/\Hid (Below w3.heap.size w3 wr)/\Hid (∀ j x,j<k->l[j]?=some x->Np.jC x.set.type (x.set.name == a.data.toList)=true)) (λi _=>l.length - (intOf i).toNat)
   case atStart=>exact⟨0,jQ _,rfl,jq (vQ _ _),jq (λj g hj=>by omega)⟩
   case round=>
    obtain⟨k,hk,rfl,HB,HA⟩:=hrel;have an:=HB.out.size;have d0:wr.cell? ⟨w.heap.size,0,none⟩=some (.string a):=aBX HB.out c0;have d1:wr.cell? ⟨w.heap.size,1,none⟩=some (.slice A l.length c):=aBX HB.out c1;have az:=aBY am HB.out;have dJ:w.heap.size<wr.heap.size:=by omega
    by_cases aa:k<l.length
    ·obtain⟨x,ac⟩:∃ x,l[k]?=some x:=⟨_,aQ aa⟩;obtain⟨b,o,c',sn,dv,sv,hA,bR,_,ar,cZ,aO,bh,f0,f1,f2,f3,f4⟩:=fR (HD.out.keep bH az.out) ac
     cases hA
     have bV:(0:Int)<=(k:Int):=by omega
     have bT:(k:Int)<(l.length:Int):=by omega
     have aB:b<wr.heap.size:=by omega
     have heq:(sn.toList == a.toList)=(x.set.name == a.data.toList):=by rw[dQ,dQ,ar]
     have uo:Hid (Np.jC x.set.type (x.set.name == a.data.toList)=true->∀ j y,j<k+1->l[j]?=some y->Np.jC y.set.type (y.set.name == a.data.toList)=true):=jq (λh j y hj hy=>by
      by_cases e:j=k
      ·subst e;rw[ac] at hy;cases hy;exact h
      ·exact HA.out j y (by omega) hy)
     have Fu:Hid (Np.jC x.set.type (x.set.name == a.data.toList)=false->r=false):=jq (λh=>by
      rw[<-HR.out];exact Np.aC λq=>by have:=q.fits x (gQ ac);rw[h] at this;cases this)
     generalize (x.set.name == a.data.toList)=bb at *;clear ac ar aO bh f2 f3 f4
     cases hf:Np.jC x.set.type bb with
     | true=>
      have HF:=jq (uo.out hf);have ci:∀ w,Calls prog 236 #[.int .i64 x.set.type,.bool bb] w (aFZ w (.bool true)):=λw=>by rw[<-hf];exact PI _ _ _
      have HC:=jq ci;rw[<-heq] at ci;have bd:=jq ci;clear hf ci heq;go_wp2_with fail;go_quiet (first | (go_at_call 236;exact Calls.quiet_of_same (Calls.still_same (bd.out _))) | (go_at_call 236;exact Calls.quiet_of_same (Calls.still_same (HC.out _))));go_wp2_with fail;go_roundw
      case rel=>exact⟨k+1,by omega,by go_num,jq (below_drewN HB.out _),jq HF.out⟩
      case measure=>simp[intOf] <;> omega
     | false=>
      have HF:=jq (Fu.out hf);have ci:∀ w,Calls prog 236 #[.int .i64 x.set.type,.bool bb] w (aFZ w (.bool false)):=λw=>by rw[<-hf];exact PI _ _ _
      have HC:=jq ci;rw[<-heq] at ci;have bd:=jq ci;clear hf ci heq;go_wp2_with fail;go_quiet (first | (go_at_call 236;exact Calls.quiet_of_same (Calls.still_same (bd.out _))) | (go_at_call 236;exact Calls.quiet_of_same (Calls.still_same (HC.out _))));go_wp2_with fail;go_ret;exact⟨ag HF.out.symm,below_drewN az.out _⟩
    ·go_wp2_with fail;go_ret;refine⟨ag ?_,az.out⟩;rw[<-HR.out];refine (Np.ba ⟨RZ.out,y8.out,λx hx=>?_⟩).symm;obtain⟨j,hj,rfl⟩:=nQ.1 hx;exact HA.out j _ (by omega) (aQ hj)
end
namespace Np
theorem BN{l:List Copy}{a:List UInt8} : a∈apexes l↔∃ c∈l,c.zone.apex=a:=by
 unfold apexes;rw[(EG _).mem_iff,tS,List.mem_map]
theorem Tv{l m:List Copy}(h:∀ a,(∃ c∈l,c.zone.apex=a)↔∃ c∈m,c.zone.apex=a):apexes l=apexes m:=
 JF fx _ _ (Jy (yq _)) (Jy (yq _)) λa=>BN.trans ((h a).trans BN.symm)
theorem GA(l:List Copy):(l.map (·.zone.apex)).foldl eP []=apexes l:=by
 have key:∀ (l o:List (List UInt8)),o.Pairwise (λa b=>aH a b<0)->(l.foldl eP o).Pairwise (λa b=>aH a b<0)/\∀ y,y∈l.foldl eP o↔y∈o\/y∈l:=by
  intro l
  induction l with
  | nil=>exact λo ho=>⟨ho,λy=>by simp⟩
  | cons a l ih=>
   intro o ho;obtain⟨h1,h2⟩:=Px o a ho;obtain⟨h3,h4⟩:=ih _ h1;exact⟨h3,λy=>by rw[List.foldl_cons,h4,h2,List.mem_cons,or_assoc]⟩
 obtain⟨h1,h2⟩:=key (l.map (·.zone.apex)) [] List.Pairwise.nil;refine JF fx _ _ h1 (Jy (yq _)) λa=>?_;rw[h2,BN,List.mem_map];simp
def xK(a:Int)(c:Copy):List Copy:=if c.frm<a/\a<c.til then [⟨c.host,c.frm,a,c.zone⟩,⟨c.host,a,c.til,c.zone⟩] else [c]
def uR(l:List Copy)(k:Nat)(a:Int):List Copy:=
 match l[k]? with
 | none=>l
 | some c=>l.take k++xK a c++l.drop (k+1)
theorem Ur{a:Int}{c d:Copy}(h:d∈xK a c):d.host=c.host/\d.zone=c.zone/\c.frm<=d.frm/\d.til<=c.til/\(c.frm<c.til->d.frm<d.til):=by
 unfold xK at h;split at h
 ·rename_i hc;simp only[List.mem_cons,Qh,or_false] at h;rcases h with rfl | rfl
  ·exact⟨rfl,rfl,Int.le_refl _,Int.le_of_lt hc.2,λ_=>hc.1⟩
  ·exact⟨rfl,rfl,Int.le_of_lt hc.1,Int.le_refl _,λ_=>hc.2⟩
 ·rw[List.mem_singleton] at h;subst h;exact⟨rfl,rfl,Int.le_refl _,Int.le_refl _,id⟩
theorem Ut{l:List Copy}{k:Nat}{c:Copy}(h:l[k]?=some c):l=l.take k ++ [c]++l.drop (k+1):=by
 obtain⟨hk,rfl⟩:=cQ.1 h;rw[List.append_assoc,List.singleton_append,List.getElem_cons_drop,List.take_append_drop]
theorem Mh(l:List Copy)(k:Nat)(a:Int):uR l k a=l\/∃ p c q,l=p ++ [c]++q/\uR l k a=p++xK a c++q:=by
 unfold uR
 cases h:l[k]? with
 | none=>exact .inl rfl
 | some c=>exact .inr ⟨_,c,_,Ut h,rfl⟩
theorem Mi{l:List Copy}{k:Nat}{a:Int}{d:Copy}(h:d∈uR l k a):∃ c∈l,d.host=c.host/\d.zone=c.zone/\c.frm<=d.frm/\d.til<=c.til/\(c.frm<c.til->d.frm<d.til):=by
 rcases Mh l k a with e | ⟨p,c,q,e1,e2⟩
 ·rw[e] at h;exact⟨d,h,rfl,rfl,Int.le_refl _,Int.le_refl _,id⟩
 ·rw[e2] at h;rcases List.mem_append.1 h with h | h
  ·rcases List.mem_append.1 h with h | h
   ·exact⟨d,by rw[e1];simp[h],rfl,rfl,Int.le_refl _,Int.le_refl _,id⟩
   ·exact⟨c,by rw[e1];simp,Ur h⟩
  ·exact⟨d,by rw[e1];simp[h],rfl,rfl,Int.le_refl _,Int.le_refl _,id⟩
theorem MY{l:List Copy}(hl:pZ l){P:Int->Zone->Prop} : (∃ c∈l,P c.host c.zone)↔∃ t,∃ c∈l,P c.host c.zone/\c.frm<=t/\t<c.til:=
 ⟨λ⟨c,h1,h2⟩=>⟨c.frm,c,h1,h2,Int.le_refl _,hl c h1⟩,λ⟨_,c,h1,h2,_⟩=>⟨c,h1,h2⟩⟩
def xE(l m:List Copy):Prop:=∀ (P:Int->Zone->Prop) (t:Int),(∃ d∈l,P d.host d.zone/\d.frm<=t/\t<d.til)↔∃ c∈m,P c.host c.zone/\c.frm<=t/\t<c.til
theorem xE.zone{l m:List Copy}(h:xE l m)(hl:pZ l)(hm:pZ m){P:Int->Zone->Prop} : (∃ c∈l,P c.host c.zone)↔∃ c∈m,P c.host c.zone:=by
 rw[MY hl,MY hm];exact⟨λ⟨t,ht⟩=>⟨t,(h P t).1 ht⟩,λ⟨t,ht⟩=>⟨t,(h P t).2 ht⟩⟩
theorem xE.apexes{l m:List Copy}(h:xE l m)(hl:pZ l)(hm:pZ m):apexes l=apexes m:=
 Tv λa=>h.zone hl hm (P:=λ_ z=>z.apex=a)
theorem xE.fresh{l m:List Copy}(h:xE l m)(hl:pZ l)(hm:pZ m)(zone:List UInt8)(s:Signed):gX (gl (dR l zone) s)=gX (gl (dR m zone) s):=by
 refine Zo (EJ hl) (EJ hm) λt=>I7.trans (Iff.trans ?_ I7.symm)
 have:=h (λ_ z=>z.apex=zone/\s∈z.sets) t
 simpa only[and_assoc] using this
theorem Pj(a b:List Copy)(zone:List UInt8):dR (a++b) zone=dR a zone++dR b zone:=by
 unfold dR uO;rw[List.filter_append,List.flatMap_append]
theorem Us(l:List Copy)(k:Nat)(a:Int):(uR l k a).length<=l.length+1:=by
 rcases Mh l k a with e | ⟨p,c,q,e1,e2⟩
 ·rw[e];omega
 ·rw[e2,e1]
  have:(xK a c).length<=2:=by unfold xK;split <;> simp
  simp only[List.length_append,List.length_singleton];omega
def withC(h:Hist)(l:List Copy):Hist:=⟨h.hosts,l,h.anchor,h.hints,h.drift,h.stop⟩
def yA(l:List Copy)(u:Int):List Copy:=(l.map λc=>⟨c.host,c.frm,min c.til u,c.zone⟩).filter λc=>decide (c.frm<c.til)
theorem O3{l:List Copy}{u:Int}{d:Copy} : d∈yA l u↔∃ c∈l,d=⟨c.host,c.frm,min c.til u,c.zone⟩/\c.frm<min c.til u:=by
 unfold yA;rw[List.mem_filter,List.mem_map];constructor
 ·rintro⟨⟨c,hc,rfl⟩,h⟩;exact⟨c,hc,rfl,by simpa using h⟩
 ·rintro⟨c,hc,rfl,h⟩;exact⟨⟨c,hc,rfl⟩,by simpa using h⟩
theorem amY(l:List Copy)(u:Int):(yA l u).length<=l.length:=by
 unfold yA;exact yQ (List.length_filter_le _ _) (by rw[List.length_map];exact bQ _)
end Np
section
open Go.RowKit
theorem Zi(a b:ByteArray)(n1 n2 n3 n4 m1 m2 m3 m4:Int)(s1 s2:Int)(w:World):(binOp .neq 50 (.agg #[.string a,.int .i64 n1,.int .i64 n2,.int .i64 n3,.int .i64 n4,.int .u64 s1]) (.agg #[.string b,.int .i64 m1,.int .i64 m2,.int .i64 m3,.int .i64 m4,.int .u64 s2])).run prog w = .ok (.bool (!(a.toList == b.toList&&(n1 == m1&&(n2 == m2&&(n3 == m3&&(n4 == m4&&s1 == s2))))))) w:=by
 have u3:=underlying3;have a3:=isAgg3;have z3:=sizeOf3;have u9:=underlying9;have a9:=isAgg9;have z9:=sizeOf9;have u8:=underlying48;have a8:=isAgg48;have z8:=sizeOf48;have hS:prog.underlying 50=some (.struct (prog.fieldsOf 50)):=by kernel_rfl
 have hp:prog.stoodInHeld 50=false:=by kernel_rfl
 rw[run_neq_struct,show (10000:Nat)=9999+1 from rfl,run_equalIn_agg w 9999 50 _ _ hS hp];simp only[Program.fieldsOf,underlying50];go_simp;by_cases h0:a.toList=b.toList <;> by_cases h1:n1=m1 <;> by_cases h2:n2=m2 <;> by_cases h3:n3=m3 <;> by_cases h4:n4=m4 <;> by_cases h5:s1=s2 <;> simp[h0,h1,h2,h3,h4,h5]
theorem anZ{x y:Np.Sig}{a b:ByteArray}(ha:a.data.toList=x.zone)(hb:b.data.toList=y.zone):(!(a.toList == b.toList&&(x.key == y.key&&(x.alg == y.alg&&(x.frm == y.frm&&(x.til == y.til&&x.sum == y.sum))))))=decide (x≠y):=by
 rw[dQ,dQ,ha,hb];obtain⟨z,k,g,f,t,m⟩:=x;obtain⟨z',k',g',f',t',m'⟩:=y;simp only[ne_eq,Np.Sig.mk.injEq];by_cases h0:z=z' <;> by_cases h1:k=k' <;> by_cases h2:g=g' <;> by_cases h3:f=f' <;> by_cases h4:t=t' <;> by_cases h5:m=m' <;> simp[h0,h1,h2,h3,h4,h5]
theorem amQ(s1 s2:ByteArray)(t1 l1 t2 l2:Int)(v1 v2 u1 u2:Value)(d1 d2:List Np.Datum)(g1 g2:List Np.Sig)(w:World)(fG:SlR bK 3 w w.heap.size v1 d1)(kZ:SlR bK 3 w w.heap.size v2 d2)(tg:SlR dl 6 w w.heap.size u1 g1)(AU:SlR dl 6 w w.heap.size u2 g2) :
 Calls prog 20 #[.agg #[.string s1,.int .i64 t1,.int .i64 l1,v1,u1],.agg #[.string s2,.int .i64 t2,.int .i64 l2,v2,u2]] w
  λe w'=>e = .returned (.bool (decide ((s1=s2/\t1=t2/\l1=l2/\d1=d2)/\g1=g2)))/\Below w.heap.size w w':=by
 obtain⟨r,hr⟩:=aCQ (decide ((s1=s2/\t1=t2/\l1=l2/\d1=d2)/\g1=g2));rw[hr];have HR:=jq hr;have qc:=jq fG;have iL:=jq kZ;have xd:=jq tg;have xe:=jq AU;obtain⟨A1,c1,rfl,_,_⟩:=ak fG;obtain⟨A2,c2,rfl,_,_⟩:=ak kZ;obtain⟨A3,c3,rfl,_,_⟩:=ak tg;obtain⟨A4,c4,rfl,_,_⟩:=ak AU;clear fG kZ tg AU hr;obtain⟨d1n,h1⟩:=aCQ d1.length;obtain⟨d2n,h2⟩:=aCQ d2.length;obtain⟨n,h3⟩:=aCQ g1.length;obtain⟨m,h4⟩:=aCQ g2.length;rw[h1,h2,h3,h4];rw[h1] at qc;rw[h2] at iL;rw[h3] at xd;rw[h4] at xe;have H3:=jq h3;have H4:=jq h4;clear h1 h2 h3 h4;obtain⟨X,hX⟩:=aCQ w.heap.size;obtain⟨Y,hY⟩:=aCQ (X+1);obtain⟨W1,ap⟩:=aCQ ((w.alloc (.cells #[.string s1,.int .i64 t1,.int .i64 l1,.slice A1 d1n c1,.slice A3 n c3] 42)).alloc (.cells #[.string s2,.int .i64 t2,.int .i64 l2,.slice A2 d2n c2,.slice A4 m c4] 42));have aD:Below w.heap.size w W1:=by rw[<-ap];exact ((vQ _ _).alloc (bQ _) _).alloc (by simp) _
 have jR:W1.heap.size=w.heap.size+2:=by rw[<-ap];simp
 have k0:W1.cell? ⟨X,0,none⟩=some (.string s1):=by rw[<-ap,<-hX];simp[go_sem]
 have k1:W1.cell? ⟨X,1,none⟩=some (.int .i64 t1):=by rw[<-ap,<-hX];simp[go_sem]
 have k2:W1.cell? ⟨X,2,none⟩=some (.int .i64 l1):=by rw[<-ap,<-hX];simp[go_sem]
 have k3:W1.cell? ⟨X,3,none⟩=some (.slice A1 d1n c1):=by rw[<-ap,<-hX];simp[go_sem]
 have k4:W1.cell? ⟨X,4,none⟩=some (.slice A3 n c3):=by rw[<-ap,<-hX];simp[go_sem]
 have j0:W1.cell? ⟨Y,0,none⟩=some (.string s2):=by rw[<-ap,<-hY,<-hX];simp[go_sem]
 have j1:W1.cell? ⟨Y,1,none⟩=some (.int .i64 t2):=by rw[<-ap,<-hY,<-hX];simp[go_sem]
 have j2:W1.cell? ⟨Y,2,none⟩=some (.int .i64 l2):=by rw[<-ap,<-hY,<-hX];simp[go_sem]
 have j3:W1.cell? ⟨Y,3,none⟩=some (.slice A2 d2n c2):=by rw[<-ap,<-hY,<-hX];simp[go_sem]
 have j4:W1.cell? ⟨Y,4,none⟩=some (.slice A4 m c4):=by rw[<-ap,<-hY,<-hX];simp[go_sem]
 rw[hX] at aD jR qc iL xd xe |-;have aZ:=jq aD;clear aD;go_enter func20,ntmps20;go_wp2_with fail;refine (alY s1 s2 t1 l1 t2 l2 _ _ d1 d2 _ ((qc.out.keep cM aZ.out).more dt (by omega)) ((iL.out.keep cM aZ.out).more dt (by omega))).mono ?_;rintro e w2 ⟨rfl,ae⟩;have aK:=ae.size;replace k0:=aBX ae k0;replace k1:=aBX ae k1;replace k2:=aBX ae k2;replace k3:=aBX ae k3;replace k4:=aBX ae k4;replace j0:=aBX ae j0;replace j1:=aBX ae j1;replace j2:=aBX ae j2;replace j3:=aBX ae j3;replace j4:=aBX ae j4;have ai:=aBY aZ ae;clear ae ap hX;obtain⟨q,hq⟩:=aCQ (decide (s1=s2/\t1=t2/\l1=l2/\d1=d2));rw[hq];have ka:=jq hq;clear hq
 cases q with
 | false=>
  have HX:Hid (r=false):=jq (by rw[<-HR.out];exact tQ λh=>(of_decide_eq_false ka.out) h.1);go_wp2_with fail;go_ret;exact⟨ag HX.out.symm,ai.out⟩
 | true=>
  by_cases oO:n=m
  ·subst oO;go_wp2_with fail;go_loopw [5] (λi wr=>∃ (k:Nat),k<=n/\i = .int .i64 k/\Hid (Below w2.heap.size w2 wr)/\Hid (g1.take k=g2.take k)) (λi _=>n - (intOf i).toNat)
   case atStart=>exact⟨0,jQ _,rfl,jq (vQ _ _),jq rfl⟩
   case round=>
    obtain⟨k,hk,rfl,bC,HT⟩:=hrel;have an:=bC.out.size;have HB:=aBY ai bC.out;have a4:=aBX bC.out k4;have b4:=aBX bC.out j4;by_cases aa:k<n
    ·obtain⟨x,hx⟩:∃ x,g1[k]?=some x:=⟨_,aQ (by rw[H3.out];exact aa)⟩;obtain⟨y,hy⟩:∃ y,g2[k]?=some y:=⟨_,aQ (by rw[H4.out];exact aa)⟩;obtain⟨b,o,c,sx,hv,bR,li,_,f0,f1,f2,f3,f4,f5⟩:=mO (xd.out.keep dD HB.out) hx;obtain⟨b',o',c',sy,hv',AK,gU,_,e0,e1,e2,e3,e4,e5⟩:=mO (xe.out.keep dD HB.out) hy;simp only[Value.slice.injEq] at hv hv';obtain⟨rfl,_,_⟩:=hv;obtain⟨rfl,_,_⟩:=hv';have iy:Hid (x=y->g1.take (k+1)=g2.take (k+1)):=jq (λe=>by
      obtain⟨q1,q2⟩:=cQ.1 hx;obtain⟨q3,q4⟩:=cQ.1 hy;rw[fQ q1,fQ q3,q2,q4,HT.out,e])
     have lD:Hid (x≠y->r=false):=jq (λe=>by
      rw[<-HR.out];refine tQ λh=>e ?_;have h2:=h.2;subst h2;rw[hx] at hy;simpa using hy)
     have bV:(0:Int)<=(k:Int):=by omega
     have bT:(k:Int)<(n:Int):=by omega
     have heq:=Zi sx sy x.key x.alg x.frm x.til y.key y.alg y.frm y.til x.sum y.sum;rw[anZ li gU] at heq;clear hx hy li gU;by_cases cB:x=y
     ·have HX:=jq (iy.out cB);have kw:decide (x≠y)=false:=by simpa using cB
      rw[kw] at heq;clear kw cB;go_wp2_with fail;go_quiet (fail);go_wp2_with fail;go_roundw
      case rel=>exact⟨k+1,by omega,by go_num,jq (below_drewN bC.out _),HX⟩
      case measure=>simp[intOf] <;> omega
     ·have HX:=jq (lD.out cB);have kw:decide (x≠y)=true:=uQ cB;rw[kw] at heq;clear kw cB;go_wp2_with fail;go_quiet (fail);go_wp2_with fail;go_ret;exact⟨ag HX.out.symm,below_drewN HB.out _⟩
    ·have HX:Hid (r=true):=jq (by
      rw[<-HR.out];refine uQ ⟨of_decide_eq_true ka.out,?_⟩
      have:=HT.out
      rwa [kQ (by rw[H3.out];omega),kQ (by rw[H4.out];omega)] at this)
     go_wp2_with fail;go_ret;exact⟨ag HX.out.symm,HB.out⟩
  ·have hne:(n:Int)≠(m:Int):=by omega
   have hd:decide ((n:Int)=(m:Int))=false:=tQ hne;have hb:((n:Int) == (m:Int))=false:=by simpa using hne
   have HX:Hid (r=false):=jq (by rw[<-HR.out];exact tQ λh=>oO (by rw[<-H3.out,<-H4.out,h.2]));go_wp2_with fail;go_ret;exact⟨ag HX.out.symm,ai.out⟩
end
section
open Go.RowKit Go.Sort Go.Shelf
def Np.Q8(l:List Np.Span):Prop:=∀ s∈l,s.frm<s.til
theorem Zj(f u f' u':Int)(w:World):(binOp .neq 110 (.agg #[.int .i64 f,.int .i64 u]) (.agg #[.int .i64 f',.int .i64 u'])).run prog w = .ok (.bool (decide ((⟨f,u⟩:Np.Span)≠⟨f',u'⟩))) w:=by
 have u3:=underlying3;have a3:=isAgg3;have z3:=sizeOf3;have hS:prog.underlying 110=some (.struct (prog.fieldsOf 110)):=by kernel_rfl
 have hp:prog.stoodInHeld 110=false:=by kernel_rfl
 rw[run_neq_struct,show (10000:Nat)=9999+1 from rfl,run_equalIn_agg w 9999 110 _ _ hS hp];simp only[Program.fieldsOf,underlying110];go_simp;by_cases h1:f=f' <;> by_cases h2:u=u' <;> simp[h1,h2]
theorem P3(v v':Value)(l m:List Np.Span)(w:World)(h:SlR eJ 2 w w.heap.size v l)(h':SlR eJ 2 w w.heap.size v' m) :
 Calls prog 21 #[v,v'] w (λe w'=>e = .returned (.bool (decide (l=m)))/\Below w.heap.size w w'):=by
 have HL:=jq h;have HM:=jq h';obtain⟨A,c,rfl,bq,bN⟩:=ak h;obtain⟨A',c',rfl,V3,DL⟩:=ak h';clear h h';by_cases hlen:l.length=m.length
 ·have xk:=jq hlen;obtain⟨n,hn⟩:=aCQ m.length;rw[hn] at V3 DL hlen;have HN:=jq hn;rw[hlen] at bq bN;rw[hn,hlen];have uu:=jq hlen;clear hlen hn;go_enter func21,ntmps21;go_wp2_with fail;go_loopw [5] (λi wr=>∃ (k:Nat),k<=n/\i = .int .i64 k/\Hid (Below w.heap.size w wr)/\Hid (l.take k=m.take k)) (λi _=>n - (intOf i).toNat)
  case atStart=>exact⟨0,jQ _,rfl,jq (vQ _ _),jq rfl⟩
  case round=>
   obtain⟨k,hk,rfl,HB,HT⟩:=hrel;have an:=HB.out.size;by_cases aa:k<n
   ·have NG:=uu.out;have NP:=HN.out;obtain⟨x,hx⟩:∃ x,l[k]?=some x:=⟨_,aQ (by omega)⟩;obtain⟨y,hy⟩:∃ y,m[k]?=some y:=⟨_,aQ (by omega)⟩;have iL:=HL.out.keep iu HB.out;have Ci:=HM.out.keep iu HB.out;rw[NG] at iL;rw[NP] at Ci;obtain⟨b,o,rfl⟩:=BX (k:=k) iL (by omega);obtain⟨b',o',rfl⟩:=BX (k:=k) Ci (by omega);obtain⟨bD,hat⟩:=yC iL hx;obtain⟨s9,xT⟩:=yC Ci hy;have h0:=hat.c0;have h1:=hat.c1;have h0':=xT.c0;have h1':=xT.c1;have iy:Hid (x=y->l.take (k+1)=m.take (k+1)):=jq (λe=>by
     obtain⟨q1,q2⟩:=cQ.1 hx;obtain⟨q3,q4⟩:=cQ.1 hy;rw[fQ q1,fQ q3,q2,q4,HT.out,e])
    have lD:Hid (x≠y->decide (l=m)=false):=jq (λe=>tQ (by rintro rfl;rw[hx] at hy;exact e (by simpa using hy)));have bV:(0:Int)<=(k:Int):=by omega
    have bT:(k:Int)<(n:Int):=by omega
    have heq:=Zj x.frm x.til y.frm y.til;clear iL Ci hat xT hx hy NG NP;by_cases cB:x=y
    ·have HX:=jq (iy.out cB);have kw:decide ((⟨x.frm,x.til⟩:Np.Span)≠⟨y.frm,y.til⟩)=false:=by rw[cB];simp
     rw[kw] at heq;clear kw cB;go_wp2_with fail;go_quiet (fail);go_wp2_with fail;go_roundw
     case rel=>exact⟨k+1,by omega,by go_num,jq (below_drewN HB.out _),HX⟩
     case measure=>simp[intOf] <;> omega
    ·have HX:=jq (lD.out cB);have kw:decide ((⟨x.frm,x.til⟩:Np.Span)≠⟨y.frm,y.til⟩)=true:=uQ cB;rw[kw] at heq;clear kw cB;go_wp2_with fail;go_quiet (fail);go_wp2_with fail;go_ret;exact⟨ag HX.out.symm,below_drewN HB.out _⟩
   ·have HE:Hid (decide (l=m)=true):=jq (uQ (by
     have:=HT.out
     rwa [kQ (by have:=uu.out;omega),kQ (by have:=HN.out;omega)] at this))
    go_wp2_with fail;go_ret;exact⟨ag HE.out.symm,HB.out⟩
 ·have hne:(l.length:Int)≠(m.length:Int):=by omega
  have hd:decide ((l.length:Int)=(m.length:Int))=false:=tQ hne;have HE:Hid (decide (l=m)=false):=jq (tQ (by rintro rfl;exact hlen rfl));have hb:((l.length:Int) == (m.length:Int))=false:=by simpa using hne
  go_enter func21,ntmps21;go_wp2_with fail;go_ret;exact⟨ag HE.out.symm,vQ _ _⟩
end
namespace Np
def qr(s:Signed):Prop:=∀ g∈s.sigs,0<=g.sum/\g.sum<18446744073709551616
def kR(h:Hist):Prop:=∀ c∈h.copies,∀ s∈c.zone.sets,qr s
theorem akY{c:UInt8}(h:r9 c=true):c≠47:=by rintro rfl;revert h;decide
theorem yp{l:List UInt8}(h:aA l=true):47∉l:=λhm=>by
 obtain⟨_,rfl | ⟨c,r,rfl,_,hr⟩⟩:=tT h
 ·revert hm;decide
 ·exact akY (List.all_eq_true.1 hr 47 hm) rfl
theorem U7{l:List UInt8}(h:jS l=true):47∉l:=λhm=>by
 unfold jS at h;simp only[Bool.and_eq_true] at h
 have:=List.all_eq_true.1 h.2 47 hm
 revert this;decide
theorem arQ{k:Int}{l:List UInt8}(h:wN k l=true):47∉l:=by
 unfold wN at h;split at h
 ·simp only[Bool.and_eq_true] at h;exact yp h.1
 ·split at h
  ·exact yp h
  ·split at h
   ·exact U7 h
   ·have:l = []:=by simpa using h
    rw[this];simp
theorem Jt(k:Int):0<=(bY k).leastN/\0<=(bY k).leastM:=by
 unfold bY;generalize k.toNat=n;by_cases h:n<9
 ·have:∀ m,m<9->0<=(rules.getD m ⟨0,0,0,0,0,false,false,false⟩).leastN/\0<=(rules.getD m ⟨0,0,0,0,0,false,false,false⟩).leastM:=by decide
  exact this n h
 ·have e:rules[n]?=none:=List.getElem?_eq_none (by simp[rules];omega);rw[List.getD_eq_getElem?_getD,e];decide
theorem Ml{k:Int}{d:Datum}(h:jt (bY k) d=true):47∉d.text/\0<=d.n/\0<=d.m:=by
 unfold jt at h;simp only[Bool.and_eq_true,Qa] at h;obtain⟨⟨⟨⟨h1,_⟩,h2,_⟩,_⟩,h3⟩:=h
 have:=Jt k
 exact⟨arQ h3,by omega,by omega⟩
theorem B7{z:Zone}(v:VZone z):aA z.apex=true/\∀ x∈z.sets,cN x.set=true:=by
 have h:=v.right;unfold fh at h;simp only[Bool.and_eq_true] at h;exact⟨h.1.1,Da h.2⟩
theorem J0{z:Zone}(v:VZone z){x:Signed}(hx:x∈z.sets)(hs:qr x):Plain47 x:=by
 obtain⟨ha,hv⟩:=B7 v;obtain⟨h1,h2,h3,h4,h5,h6,h7,h8⟩:=qY (hv x hx);refine⟨yp h1,by omega,h4,λd hd=>Ml (Af h8 d hd),λg hg=>?_⟩;obtain⟨i,hi⟩:=List.mem_iff_getElem?.1 hg
 have:=(v.form x hx).2 i g hi
 exact⟨by rw[this.zone];exact yp ha,by have:=this.key;omega,by have:=this.alg;omega,this.win.1,by have:=this.win;omega,(hs g hg).1⟩
def nP(us:List Signed):List (List UInt8×Value):=us.zipIdx.map λp=>(de p.1,.int .i64 ((p.2:Nat):Int))
theorem YB(us:List Signed)(s:Signed):nP (us ++ [s])=nP us ++ [(de s,.int .i64 ((us.length:Nat):Int))]:=by
 unfold nP;rw[List.zipIdx_append,List.map_append];simp
theorem OQ:∀ (us:List Signed) (n:Nat) (s:Signed),Plain47 s->(∀ x∈us,Plain47 x)->s∉us->((us.zipIdx n).map λp=>(de p.1,Value.int .i64 ((p.2:Nat):Int))).lookup (de s)=none
 | [],_,_,_,_,_=>rfl
 | x::us,n,s,hs,hu,hn=>by
   rw[List.zipIdx_cons,List.map_cons,List.lookup_cons];have hne:(de s == de x)=false:=by
    rw[beq_eq_false_iff_ne];intro e;exact hn (by rw[D9 hs (hu x (by simp)) e];simp)
   rw[hne];exact OQ us (n+1) s hs (λy hy=>hu y (mQ _ hy)) (λh=>hn (mQ _ h))
theorem YA{us:List Signed}{s:Signed}(hs:Plain47 s)(hu:∀ x∈us,Plain47 x)(hn:s∉us):(nP us).lookup (de s)=none:=OQ us 0 s hs hu hn
theorem OR:∀ (us:List Signed) (n:Nat) (s:Signed) (i:Nat),Plain47 s->(∀ x∈us,Plain47 x)->us.Nodup->us[i]?=some s->((us.zipIdx n).map λp=>(de p.1,Value.int .i64 ((p.2:Nat):Int))).lookup (de s)=some (.int .i64 ((n+i:Nat):Int))
 | [],_,_,_,_,_,_,h=>by simp at h
 | x::us,n,s,i,hs,hu,hd,h=>by
   rw[List.zipIdx_cons,List.map_cons,List.lookup_cons]
   cases i with
   | zero=>
    have e:x=s:=by simpa using h
    subst e;simp
   | succ i=>
    have h':us[i]?=some s:=by simpa using h
    have hne:(de s == de x)=false:=by
     rw[beq_eq_false_iff_ne];intro e
     have:=D9 hs (hu x (by simp)) e
     subst this;exact (List.nodup_cons.1 hd).1 (gQ h')
    rw[hne]
    have:=OR us (n+1) s i hs (λy hy=>hu y (mQ _ hy)) (List.nodup_cons.1 hd).2 h'
    rw[show n+(i+1)=n+1+i by omega];exact this
theorem YC{us:List Signed}{s:Signed}{i:Nat}(hs:Plain47 s)(hu:∀ x∈us,Plain47 x)(hd:us.Nodup)(h:us[i]?=some s):(nP us).lookup (de s)=some (.int .i64 ((i:Nat):Int)):=by
 have:=OR us 0 s i hs hu hd h
 rwa [Nat.zero_add] at this
def eO(ps:List (Span×Signed)):List (Signed×List Span):=(dg (ps.map (·.2))).map λs=>(s,gl ps s)
theorem Y8(ps:List (Span×Signed)):(eO ps).map (·.1)=dg (ps.map (·.2)):=by
 unfold eO;rw[List.map_map];exact List.map_id'' (λ_=>rfl) _
theorem Y9(f:List Span->List Span)(zone:List UInt8)(ps:List (Span×Signed)):xX f zone ps=(eO ps).map λx=>⟨zone,x.1,f x.2,[]⟩:=by
 unfold xX eO;rw[List.map_map];rfl
theorem Zb{ps:List (Span×Signed)}{p:Span×Signed}(h:p.2∉dg (ps.map (·.2))):eO (ps ++ [p])=eO ps ++ [(p.2,[p.1])]:=by
 have hn:p.2∉ps.map (·.2):=λhm=>h (tS.2 hm);unfold eO;rw[List.map_append,List.map_singleton,yH,iC,Qc h,List.map_append];congr 1
 ·refine List.map_congr_left λs hs=>?_;rw[EI,Qc (show ¬ p.2=s from λe=>h (by rw[e];exact hs))]
 ·simp[EI,arK hn]
theorem Zc{ps:List (Span×Signed)}{p:Span×Signed}{i:Nat}(h:(dg (ps.map (·.2)))[i]?=some p.2):eO (ps ++ [p])=(eO ps).set i (p.2,gl ps p.2 ++ [p.1]):=by
 obtain⟨hi,he⟩:=cQ.1 h;have hm:p.2∈dg (ps.map (·.2)):=by rw[<-he];exact List.getElem_mem _
 have nJ:=yq (ps.map (·.2));have hu:dg ((ps ++ [p]).map (·.2))=dg (ps.map (·.2)):=by rw[List.map_append,List.map_singleton,yH,CP hm]
 refine List.ext_getElem? λj=>?_;rw[List.getElem?_set];unfold eO;rw[hu,List.getElem?_map,List.getElem?_map,List.length_map];by_cases dp:i=j
 ·subst dp;rw[Qb rfl,Qb hi,h,Option.map_some,EI,Qb rfl]
 ·rw[Qc dp]
  cases hj:(dg (ps.map (·.2)))[j]? with
  | none=>rfl
  | some s=>
   obtain⟨vv,x8⟩:=cQ.1 hj;have hne:p.2≠s:=λe=>dp ((List.getElem_inj (h₀:=hi) (h₁:=vv) nJ).1 (he.trans (e.trans x8.symm)));rw[Option.map_some,Option.map_some,EI,Qc hne]
theorem Za(ps:List (Span×Signed)):(eO ps).length=(dg (ps.map (·.2))).length:=List.length_map _
end Np
section
open Go.RowKit
theorem kN.fresh(b:Nat)(r:Option Nat)(W:World)(T:TypeId)(ns:List Int)(hb:b<W.heap.size)(hr:∀ k,r=some k->k<W.heap.size):kN b r (W.alloc (.cells (ns.map (Value.int .i64)).toArray T)) (.slice (some ⟨W.heap.size,0,none⟩) ns.length ns.length) ns:=by
 refine⟨_,_,rfl,bQ _,λi x hx=>⟨W.heap.size,0,rfl,by simp,by omega,λe=>by have:=hr _ e;omega,?_⟩⟩;rw[World.cell?_alloc_new];simp[hx]
structure KeyS(s:Np.Signed):Prop where
 name:s.set.name.length<=1000
 type:0<=s.set.type/\s.set.type<=1000000000
 life:0<=s.set.life/\s.set.life<=1000000000
 few:s.set.data.length<=100
 data:∀ d∈s.set.data,d.text.length<=1000/\(0<=d.n/\d.n<=1000000000)/\0<=d.m/\d.m<=1000000000
 fewS:s.sigs.length<=100
 sigs:∀ g∈s.sigs,g.zone.length<=1000/\(0<=g.key/\g.key<=1000000000)/\(0<=g.alg/\g.alg<=1000000000)/\(0<=g.frm/\g.frm<=1000000000)/\(0<=g.til/\g.til<=1000000000)/\0<=g.sum/\g.sum<18446744073709551616
def iA(f:List (List UInt8))(d:List Np.Datum):List UInt8:=Np.cx (f++d.flatMap Np.qu)
def iB(f:List (List UInt8))(g:List Np.Sig):List UInt8:=Np.cx (f++g.flatMap Np.sk)
theorem LE{f:List (List UInt8)}{d:List Np.Datum}{k:Nat}{x:Np.Datum}(hx:d[k]?=some x):iA f (d.take (k+1))=iA f (d.take k)++Np.cx (x.text :: [x.n,x.m].map Np.aV):=by
 obtain⟨hl,he⟩:=cQ.1 hx;rw[fQ hl,he];unfold iA;rw[List.flatMap_append,<-List.append_assoc,UC];rfl
theorem LF{f:List (List UInt8)}{d:List Np.Sig}{k:Nat}{x:Np.Sig}(hx:d[k]?=some x):iB f (d.take (k+1))=iB f (d.take k)++Np.cx (x.zone :: [x.key,x.alg,x.frm,x.til].map Np.aV)++Np.cx (Np.aV x.sum::([]:List Int).map Np.aV):=by
 obtain⟨hl,he⟩:=cQ.1 hx;rw[fQ hl,he];unfold iB;simp[Np.cx,Np.sk]
theorem C3{s:List UInt8}{ns:List Int}(hs:s.length<=1000)(hn:ns.length<=4)(h:∀ n∈ns,n<=1000000000):(Np.cx (s::ns.map Np.aV)).length<=1900:=by
 have:=Pz ns s (λn hm=>by have:=h n hm;omega)
 rw[Jm] at this;omega
theorem aqY(s:ByteArray)(ty life:Int)(dv sv:Value)(d:List Np.Datum)(g:List Np.Sig)(w:World)(hP:fK w)(hK:KeyS ⟨⟨s.data.toList,ty,life,d⟩,g⟩)(hd:SlR bK 3 w w.heap.size dv d)(hg:SlR dl 6 w w.heap.size sv g) :
 Calls prog 139 #[.agg #[.string s,.int .i64 ty,.int .i64 life,dv,sv]] w λe w'=>e = .returned (av (Np.de ⟨⟨s.data.toList,ty,life,d⟩,g⟩))/\Below w.heap.size w w':=by
 have HK:=jq hK;have HD:=jq hd;have HG:=jq hg;have HP:=jq hP;have Dn:=hP.lt;have mX:Hid (∀ f,f = [s.data.toList,Np.aV ty,Np.aV life,Np.aV d.length]->iB (f++d.flatMap Np.qu) g=Np.de ⟨⟨s.data.toList,ty,life,d⟩,g⟩):=jq (λf hf=>by subst hf;unfold iB Np.de Np.xM;rw[List.append_assoc]);have sI:Hid (Np.cx (s.data.toList :: [ty,life,(d.length:Int)].map Np.aV)=iA [s.data.toList,Np.aV ty,Np.aV life,Np.aV d.length] []):=jq (by simp[iA]);have an:s.size<=1000:=by have:=hK.name;rw[<-aX];exact this
 have jI:d.length<=100:=hK.few;have nC:g.length<=100:=hK.fewS;obtain⟨A1,c1,rfl,_,_⟩:=ak hd;obtain⟨A2,c2,rfl,_,_⟩:=ak hg;obtain⟨n1,bU⟩:=aCQ d.length;obtain⟨n2,cV⟩:=aCQ g.length;rw[bU] at HD mX sI jI |-;rw[cV] at HG nC |-;have j9:=jq bU;have ux:=jq cV;clear bU cV hd hg hK hP;obtain⟨f0,la⟩:∃ f0,[s.data.toList,Np.aV ty,Np.aV life,Np.aV n1]=f0:=⟨_,rfl⟩;have iv:=jq (mX.out f0 la.symm);rw[la] at sI;clear la mX;obtain⟨X,hX⟩:=aCQ w.heap.size;obtain⟨Y,hY⟩:=aCQ (X+1);obtain⟨W0,dw⟩:=aCQ (w.alloc (.cells #[.string s,.int .i64 ty,.int .i64 life,.slice A1 n1 c1,.slice A2 n2 c2] 42));have db:W0.heap.size=Y:=by rw[<-dw,<-hY,<-hX];simp
 obtain⟨W1,ap⟩:=aCQ (W0.alloc (.cells #[.pointer none,.slice none 0 0] 198));have cE:Below X w W0:=by rw[<-dw];exact (vQ _ _).alloc (Nat.le_of_eq hX.symm) _
 have aB:Below Y W0 W1:=by rw[<-ap];exact (vQ _ _).alloc (Nat.le_of_eq db.symm) _
 have bk:W1.heap.size=Y+1:=by rw[<-ap,<-db];simp
 have Ri:Hid (Bld 198 Y Y none [] W1):=jq (by rw[<-ap,<-db];exact Bld.fresh _ _);have k0:W1.cell? ⟨X,0,none⟩=some (.string s):=aBX aB (by rw[<-dw,<-hX];simp[go_sem]);have k1:W1.cell? ⟨X,1,none⟩=some (.int .i64 ty):=aBX aB (by rw[<-dw,<-hX];simp[go_sem]);have k2:W1.cell? ⟨X,2,none⟩=some (.int .i64 life):=aBX aB (by rw[<-dw,<-hX];simp[go_sem]);have k3:W1.cell? ⟨X,3,none⟩=some (.slice A1 n1 c1):=aBX aB (by rw[<-dw,<-hX];simp[go_sem]);have k4:W1.cell? ⟨X,4,none⟩=some (.slice A2 n2 c2):=aBX aB (by rw[<-dw,<-hX];simp[go_sem]);obtain⟨W2,cS⟩:=aCQ (W1.alloc (.cells #[.int .i64 ty,.int .i64 life,.int .i64 (n1:Int)] 3));have ae:Below W1.heap.size W1 W2:=by rw[<-cS];exact (vQ _ _).alloc (bQ _) _
 have uy:Hid (kN Y none W2 (.slice (some ⟨Y+1,0,none⟩) 3 3) [ty,life,(n1:Int)]):=jq (by rw[<-cS,<-bk];exact kN.fresh Y none W1 _ [ty,life,(n1:Int)] (by omega) (λk h=>by cases h));have aZ:Hid (Below Y W0 W2):=jq (aB.trans (ae.aDQ));have az:=jq cE;have mT:=jq ae;have MT:X<W1.heap.size:=by omega
 have VD:Y<W1.heap.size:=by omega
 clear cE aB ae;rw[hX] at HD HG Dn |-;go_enter func139,ntmps139;go_wp2_with fail;have aK:Y+1<=W2.heap.size:=by have:=mT.out.size;omega
 have j3:=aBX mT.out k3;have j4:=aBX mT.out k4;have pq:Hid (fK W2):=jq (HP.out.keepAt (az.out.trans (aZ.out.aDQ)) (by omega));clear k0 k1 k2 k3 k4 dw ap cS hX MT VD;have pt:Hid (∀ n∈[ty,life,(n1:Int)],0<=n/\n<=1000000000):=jq (λn hn=>by
  have h1:=HK.out.type;have h2:=HK.out.life;dsimp only at h1 h2;simp only[List.mem_cons,Qh,or_false] at hn;rcases hn with rfl | rfl | rfl <;> omega)
 refine (Eo Y Y none [] s _ _ W2 (Ri.out.keep mT.out) uy.out (λn hn=>by have:=pt.out n hn;omega) (by simp) (by omega) (by simp) (by omega) pq.out (by omega)).mono ?_;rintro e w3 ⟨rfl,r3,nG,dG⟩;rw[sI.out] at nG;have al:Below Y W2 w3:=dG.below (bQ _) (λk h=>by cases h) (by omega);have R2:Hid (Bld 198 Y Y r3 (iA f0 []) w3):=jq (by simpa using nG);have eF:=al.size;have i3:=aBX al j3;have i4:=aBX al j4;have am:Hid (Below X w w3):=jq (az.out.trans ((aZ.out.trans al).aDQ));have sC:Hid ((iA f0 []).length<=2000):=jq (by
  rw[<-sI.out]
  have:=C3 (s:=s.data.toList) (ns:=[ty,life,(n1:Int)]) HK.out.name (by simp) (λn hn=>(pt.out n hn).2)
  omega)
 clear nG dG al j3 j4;go_wp2_with fail;go_loopw [30] (λi wr=>∃ (k:Nat) (r:Option Nat),k<=n1/\i = .int .i64 k/\Y+1<=wr.heap.size/\Hid (Bld 198 Y Y r (iA f0 (d.take k)) wr)/\Hid (Below Y w3 wr)/\Hid ((iA f0 (d.take k)).length<=2000 * (k+1))) (λi _=>n1 - (intOf i).toNat)
 case atStart=>exact⟨0,r3,jQ _,rfl,by omega,by simpa using R2,jq (vQ _ _),by simpa using sC⟩
 case round=>
  obtain⟨k,r,hk,rfl,MV,HL,bC,HA⟩:=hrel;have HB:=aBY am bC.out;have q3:=aBX bC.out i3;have q4:=aBX bC.out i4;by_cases aa:k<n1
  ·obtain⟨x,ac⟩:∃ x,d[k]?=some x:=⟨_,aQ (by rw[j9.out];exact aa)⟩;obtain⟨b,o,c',t,hA,bR,_,ht,vP,g0,g1,g2⟩:=C1 (HD.out.keep cM HB.out) ac;simp only[Value.slice.injEq] at hA;obtain⟨rfl,-,rfl⟩:=hA;have HT:=jq (LE (f:=f0) ac);have HX:=jq (HK.out.data x (gQ ac));have om:=jq ht;have iY:t.size<=1000:=by rw[<-aX,ht];exact HX.out.1
   clear ac ht vP;have bV:(0:Int)<=(k:Int):=by omega
   have bT:(k:Int)<(n1:Int):=by omega
   obtain⟨w4,bS⟩:=aCQ (wr.alloc (.cells #[.string t,.int .i64 x.n,.int .i64 x.m] 128));have fd:w4.heap.size=wr.heap.size+1:=by rw[<-bS];simp
   have aw:Below wr.heap.size wr w4:=by rw[<-bS];exact (vQ _ _).alloc (bQ _) _
   have p0:w4.cell? ⟨wr.heap.size,0,none⟩=some (.string t):=by rw[<-bS];simp[go_sem]
   have p1:w4.cell? ⟨wr.heap.size,1,none⟩=some (.int .i64 x.n):=by rw[<-bS];simp[go_sem]
   have p2:w4.cell? ⟨wr.heap.size,2,none⟩=some (.int .i64 x.m):=by rw[<-bS];simp[go_sem]
   obtain⟨w5,aW⟩:=aCQ (w4.alloc (.cells #[.int .i64 x.n,.int .i64 x.m] 3));have aJ:Below w4.heap.size w4 w5:=by rw[<-aW];exact (vQ _ _).alloc (bQ _) _
   have pE:Below wr.heap.size wr w5:=aw.trans (aJ.aDQ);have FO:Hid (kN Y r w5 (.slice (some ⟨wr.heap.size+1,0,none⟩) 2 2) [x.n,x.m]):=jq (by rw[<-aW,<-fd];exact kN.fresh Y r w4 _ [x.n,x.m] (by omega) (λk h=>by have:=(HL.out.row.2.2 k h).2;omega));have sL:=jq (HL.out.keep pE);have m9:Hid (fK w5):=jq (HP.out.keepAt (HB.out.trans (pE.aDQ)) Dn);have iJ:=pE.size;have p9:=jq pE;clear aw aJ pE;go_wp2_with fail;clear bS aW p0 p1 p2;refine (Eo Y Y r _ t _ _ w5 sL.out FO.out (λn hn=>by
    have h1:=HX.out.2;simp only[List.mem_cons,Qh,or_false] at hn;rcases hn with rfl | rfl <;> omega) (by have:=HA.out;omega) (by omega) (by simp) (by omega) m9.out (by omega)).mono ?_
   rw[om.out,<-HT.out];rintro e w6 ⟨rfl,r6,Bg,yj⟩;have aR:Below Y w5 w6:=yj.below (bQ _) (λk h=>(sL.out.row.2.2 k h).1) (by omega);have H6:=jq (And.intro Bg (bC.out.trans ((p9.out.aDQ).trans aR)));have iq:=aR.size;have ju:Hid ((iA f0 (d.take (k+1))).length<=2000 * (k+1+1)):=jq (by
    rw[HT.out,List.length_append]
    have:=HA.out
    have:=C3 (s:=x.text) (ns:=[x.n,x.m]) HX.out.1 (by simp) (λn hn=>by
     have h1:=HX.out.2;simp only[List.mem_cons,Qh,or_false] at hn;rcases hn with rfl | rfl <;> omega)
    omega)
   clear Bg yj aR;go_wp2_with fail;go_roundw
   case rel=>exact⟨k+1,r6,by omega,by go_num,by omega,jq H6.out.1,jq H6.out.2,ju⟩
   case measure=>simp[intOf] <;> omega
  ·have bZ:Hid (d.take k=d):=jq (kQ (by rw[j9.out];omega));have B9:Hid ((iA f0 d).length<=202000):=jq (by have:=HA.out;rw[bZ.out] at this;omega);rw[bZ.out] at HL;go_wp2_with fail;clear aa hk;obtain⟨wo,rfl⟩:=aCY wr;obtain⟨f1,oL⟩:=aCQ (f0++d.flatMap Np.qu);have sK:=jq iv.out;rw[oL] at sK;have R4:Hid (Bld 198 Y Y r (iB f1 []) wo):=jq (by have:=HL.out;unfold iA at this;rw[oL] at this;simpa [iB] using this);have HAS:Hid ((iB f1 []).length<=202000):=jq (by have:=B9.out;unfold iA at this;rw[oL] at this;simpa [iB] using this);clear oL;go_loopw [47] (λi wr=>∃ (k:Nat) (r:Option Nat),k<=n2/\i = .int .i64 k/\Y+1<=wr.heap.size/\Hid (Bld 198 Y Y r (iB f1 (g.take k)) wr)/\Hid (Below Y wo wr)/\Hid ((iB f1 (g.take k)).length<=202000+4000 * k)) (λi _=>n2 - (intOf i).toNat)
   case atStart=>exact⟨0,r,jQ _,rfl,by omega,by simpa using R4,jq (vQ _ _),by simpa using HAS⟩
   case round=>
    obtain⟨k,r,hk,rfl,MV,HL,jx,HA⟩:=hrel;have HC:=aBY HB jx.out;have s4:=aBX jx.out q4;by_cases aa:k<n2
    ·obtain⟨x,ac⟩:∃ x,g[k]?=some x:=⟨_,aQ (by rw[ux.out];exact aa)⟩;obtain⟨b,o,c',t,hA,bR,ht,vP,g0,g1,g2,g3,g4,g5⟩:=mO (HG.out.keep dD HC.out) ac;simp only[Value.slice.injEq] at hA;obtain⟨rfl,-,rfl⟩:=hA;have HT:=jq (LF (f:=f1) ac);have HX:=jq (HK.out.sigs x (gQ ac));have om:=jq ht;have iY:t.size<=1000:=by rw[<-aX,ht];exact HX.out.1
     clear ac ht vP;have bV:(0:Int)<=(k:Int):=by omega
     have bT:(k:Int)<(n2:Int):=by omega
     have Lk:Hid (∀ n∈[x.key,x.alg,x.frm,x.til],0<=n/\n<=1000000000):=jq (λn hn=>by
      have h1:=HX.out.2;simp only[List.mem_cons,Qh,or_false] at hn;rcases hn with rfl | rfl | rfl | rfl <;> omega)
     obtain⟨w4,bS⟩:=aCQ (wr.alloc (.cells #[.string t,.int .i64 x.key,.int .i64 x.alg,.int .i64 x.frm,.int .i64 x.til,.int .u64 x.sum] 50));have fd:w4.heap.size=wr.heap.size+1:=by rw[<-bS];simp
     have aw:Below wr.heap.size wr w4:=by rw[<-bS];exact (vQ _ _).alloc (bQ _) _
     have p0:w4.cell? ⟨wr.heap.size,0,none⟩=some (.string t):=by rw[<-bS];simp[go_sem]
     have p1:w4.cell? ⟨wr.heap.size,1,none⟩=some (.int .i64 x.key):=by rw[<-bS];simp[go_sem]
     have p2:w4.cell? ⟨wr.heap.size,2,none⟩=some (.int .i64 x.alg):=by rw[<-bS];simp[go_sem]
     have p3:w4.cell? ⟨wr.heap.size,3,none⟩=some (.int .i64 x.frm):=by rw[<-bS];simp[go_sem]
     have p4:w4.cell? ⟨wr.heap.size,4,none⟩=some (.int .i64 x.til):=by rw[<-bS];simp[go_sem]
     have p5:w4.cell? ⟨wr.heap.size,5,none⟩=some (.int .u64 x.sum):=by rw[<-bS];simp[go_sem]
     obtain⟨w5,aW⟩:=aCQ (w4.alloc (.cells #[.int .i64 x.key,.int .i64 x.alg,.int .i64 x.frm,.int .i64 x.til] 3));have aJ:Below w4.heap.size w4 w5:=by rw[<-aW];exact (vQ _ _).alloc (bQ _) _
     have pE:Below wr.heap.size wr w5:=aw.trans (aJ.aDQ);have FO:Hid (kN Y r w5 (.slice (some ⟨wr.heap.size+1,0,none⟩) 4 4) [x.key,x.alg,x.frm,x.til]):=jq (by rw[<-aW,<-fd];exact kN.fresh Y r w4 _ [x.key,x.alg,x.frm,x.til] (by omega) (λk h=>by have:=(HL.out.row.2.2 k h).2;omega));have o5:=aBX aJ p5;have ng:Hid (∀ k,r=some k->k<wr.heap.size):=jq (λk h=>(HL.out.row.2.2 k h).2);have sL:=jq (HL.out.keep pE);have m9:Hid (fK w5):=jq (HP.out.keepAt (HC.out.trans (pE.aDQ)) Dn);have iJ:=pE.size;have aPY:=aJ.size;have p9:=jq pE;clear aw aJ pE;go_wp2_with fail;clear bS aW p0 p1 p2 p3 p4 p5;refine (Eo Y Y r _ t _ _ w5 sL.out FO.out (λn hn=>by have:=Lk.out n hn;omega) (by have:=HA.out;omega) (by omega) (by simp) (by omega) m9.out (by omega)).mono ?_;rw[om.out];rintro e w6 ⟨rfl,r6,Bg,yj⟩;have aR:Below Y w5 w6:=yj.below (bQ _) (λk h=>(sL.out.row.2.2 k h).1) (by omega);have l3:Hid ((Np.cx (x.zone :: [x.key,x.alg,x.frm,x.til].map Np.aV)).length<=1900):=jq (C3 HX.out.1 (by simp) (λn hn=>(Lk.out n hn).2));have t5:=(yj.cell (k:=wr.heap.size) (by omega) (by omega) (λe=>by have:=ng.out _ e;omega) 5).trans o5;have FD:=jq Bg;have VS:=jq (jx.out.trans ((p9.out.aDQ).trans aR));have iq:=aR.size;have og:Hid (fK w6):=jq (m9.out.keepAt aR (by omega));clear Bg yj aR o5;go_wp2_with fail;refine (MG x.sum HX.out.2.2.2.2.2.1 HX.out.2.2.2.2.2.2 w6 og.out).mono ?_;rintro e w7 ⟨rfl,ep⟩;have nN:=ep.size;have Co:=jq (FD.out.keep ep);have FW:=jq (og.out.keep ep);have cr:=aBY VS ep;have kI:Hid ((⟨(Np.aV x.sum).toArray⟩:ByteArray).size<=100):=jq (by rw[<-aX];have:=uS HX.out.2.2.2.2.2.2;simp;omega);clear ep t5;go_wp2_with fail;refine (Eo Y Y r6 _ ⟨(Np.aV x.sum).toArray⟩ _ [] w7 Co.out (kN.nil _ _ _) (λn hn=>by cases hn) (by have:=HA.out;have:=l3.out;rw[List.length_append];omega) (by have:=kI.out;omega) (by simp) (by omega) FW.out (by omega)).mono ?_;rintro e w8 ⟨rfl,r8,NE,N7⟩;have dS:Below Y w7 w8:=N7.below (bQ _) (λk h=>(Co.out.row.2.2 k h).1) (by omega);have qL:=dS.size;have H8:Hid (Bld 198 Y Y r8 (iB f1 (g.take (k+1))) w8/\Below Y wo w8):=jq ⟨by rw[HT.out];simpa using NE,cr.out.trans dS⟩;have Q9:Hid ((iB f1 (g.take (k+1))).length<=202000+4000 * (k+1)):=jq (by
      rw[HT.out,List.length_append,List.length_append]
      have:=HA.out
      have:=l3.out
      have:=C3 (s:=Np.aV x.sum) (ns:=[]) (by have:=uS HX.out.2.2.2.2.2.2;omega) (by simp) (λn hn=>by cases hn)
      omega)
     clear NE N7 dS;go_wp2_with fail;go_roundw
     case rel=>exact⟨k+1,r8,by omega,by go_num,by omega,jq H8.out.1,jq H8.out.2,Q9⟩
     case measure=>simp[intOf] <;> omega
    ·have bZ:Hid (g.take k=g):=jq (kQ (by rw[ux.out];omega));rw[bZ.out] at HL;go_wp2_with fail;refine (Qt Y Y _ wr HL.out.read).mono ?_;rw[sK.out];rintro e w9 ⟨rfl,_,fN⟩;have eS:=aBY HC fN;clear fN;go_wp2_with fail;go_ret;exact⟨rfl,eS.out⟩
end
namespace Np
def js(x:Signed)(drift til:Int):Int:=
 match x.sigs with
 | []=>til - 1+max x.set.life 1+2 * drift
 | g::_=>min (til - 1+max x.set.life 1+2 * drift) (g.til+drift+1)
def kV(x:Signed)(drift:Int)(s:Span):Span:=⟨s.frm,max s.til (js x drift s.til)⟩
def pa(x:Held)(drift:Int):List Span:=gX (x.fresh.map (kV x.signed drift))
def pubAll(h:Hist):List Held:=(apexes h.copies).flatMap λz=>pub h.copies z
def bM(h:Hist):List Held:=(pubAll h).map λx=>{ x with spans:=pa x h.drift }
theorem O2{h:Hist}{x:Held} : x∈pubAll h↔∃ z∈apexes h.copies,x∈pub h.copies z:=by
 unfold pubAll;rw[List.mem_flatMap]
def fe(l:List Held)(n:List UInt8)(ty t:Int):List Signed:=dg ((l.filter λx=>(x.signed.set.name == n)&&(decide (x.signed.set.type=ty)&&l1 x.spans t)).map (·.signed))
where l1 (sp:List Span) (t:Int):Bool:=sp.any λs=>decide (s.frm<=t)&&decide (t<s.til)
theorem YE{sp:List Span}{t:Int} : fe.l1 sp t=true↔inS sp t:=by
 unfold fe.l1 inS;rw[List.any_eq_true];simp
theorem Pk(c:Copy)(z:List UInt8):(dR [c] z).length=if c.zone.apex=z then c.zone.sets.length else 0:=by
 unfold dR uO;rw[List.filter_cons,List.filter_nil];by_cases h:c.zone.apex=z
 ·have hb:(c.zone.apex == z)=true:=by rw[h];simp
  rw[Qb h,hb,Qb rfl];simp[oU]
 ·have hb:(c.zone.apex == z)=false:=by simpa using h
  rw[Qc h,hb];simp
theorem Pm(c:Copy):∀ zs:List (List UInt8),zs.Nodup->(zs.map λz=>(dR [c] z).length).sum<=c.zone.sets.length
 | [],_=>by simp
 | z::zs,h=>by
   obtain⟨h1,h2⟩:=List.nodup_cons.1 h;rw[List.map_cons,List.sum_cons,Pk];by_cases e:c.zone.apex=z
   ·rw[Qb e];have h0:(zs.map λz=>(dR [c] z).length).sum=0:=by
     rw[List.sum_eq_zero_iff_forall_eq_nat];intro n hn;obtain⟨y,hy,rfl⟩:=List.mem_map.1 hn;rw[Pk,Qc (λe2=>h1 (by rw[<-e,e2];exact hy))]
    omega
   ·rw[Qc e,Nat.zero_add];exact Pm c zs h2
theorem Qv{α:Type}(f g:α->Nat):∀ l:List α,(l.map λx=>f x+g x).sum=(l.map f).sum+(l.map g).sum
 | []=>rfl
 | x::l=>by
   have:=Qv f g l
   simp only[List.map_cons,List.sum_cons];omega
theorem Pi{n:Nat} : ∀ (l:List Copy),(∀ c∈l,c.zone.sets.length<=n)->∀ zs:List (List UInt8),zs.Nodup->(zs.map λz=>(dR l z).length).sum<=l.length * n
 | [],_,zs,_=>by
   have:(zs.map λz=>(dR [] z).length).sum=0:=by
    rw[List.sum_eq_zero_iff_forall_eq_nat];intro n hn;obtain⟨y,hy,rfl⟩:=List.mem_map.1 hn;rfl
   omega
 | c::l,h,zs,hz=>by
   have h1:=Pi l (λd hd=>h d (mQ _ hd)) zs hz;have h2:=Pm c zs hz;have h3:=h c (by simp);have e:(zs.map λz=>(dR (c::l) z).length)=zs.map λz=>(dR [c] z).length+(dR l z).length:=by
    refine List.map_congr_left λz _=>?_
    have:=Pj [c] l z
    rw[List.singleton_append] at this;rw[this,List.length_append]
   rw[e,Qv,List.length_cons,Nat.add_mul,Nat.one_mul];omega
theorem Z2(l:List Copy)(z:List UInt8):(pub l z).length<=(dR l z).length:=by
 unfold pub;rw[Wl]
 have:=ua ((dR l z).map (·.2))
 rwa [List.length_map] at this
theorem Qw{α:Type}{f g:α->Nat}(h:∀ x,f x<=g x):∀ l:List α,(l.map f).sum<=(l.map g).sum
 | []=>bQ _
 | x::l=>by
   have:=Qw h l
   have:=h x
   simp only[List.map_cons,List.sum_cons];omega
theorem Tu(l:List Copy):(apexes l).Nodup:=by
 unfold apexes;exact (EG _).nodup_iff.2 (yq _)
def pubTo(h:Hist)(k:Nat):List Held:=((apexes h.copies).take k).flatMap λz=>pub h.copies z
theorem ZZ{h:Hist}{k:Nat}{z:List UInt8}(hz:(apexes h.copies)[k]?=some z):pubTo h (k+1)=pubTo h k++pub h.copies z:=by
 obtain⟨hl,he⟩:=cQ.1 hz;unfold pubTo;rw[fQ hl,he,List.flatMap_append];simp
theorem Ps{h:Hist}{k:Nat}(hk:(apexes h.copies).length<=k):pubTo h k=pubAll h:=by
 unfold pubTo pubAll;rw[kQ hk]
theorem Pt{h:Hist}{n m:Nat}(hn:∀ c∈h.copies,c.zone.sets.length<=n)(hm:h.copies.length<=m)(k:Nat):(pubTo h k).length<=m * n:=by
 unfold pubTo;rw[List.length_flatMap];refine yQ (Qw (λz=>Z2 h.copies z) _) (yQ (Pi h.copies hn _ ((Tu _).sublist (List.take_sublist _ _))) (Nat.mul_le_mul_right n hm))
theorem ZV{h:Hist}{n m:Nat}(hn:∀ c∈h.copies,c.zone.sets.length<=n)(hm:h.copies.length<=m):(pubAll h).length<=m * n:=by
 rw[<-Ps (bQ _)];exact Pt hn hm _
def oC(d:Int)(l:List Held)(k:Nat):List Held:=(l.take k).map (λx=>{ x with spans:=pa x d })++l.drop k
theorem Tm(d:Int)(l:List Held)(k:Nat):(oC d l k).length=l.length:=by
 unfold oC;rw[List.length_append,List.length_map,<-List.length_append,List.take_append_drop]
theorem LL{d:Int}{l:List Held}{k:Nat}{x:Held}(hx:l[k]?=some x):(oC d l k)[k]?=some x:=by
 have hl:=(cQ.1 hx).1;unfold oC;rw[oQ (by simp;omega),List.length_map,List.length_take,Nat.min_eq_left (by omega),Nat.sub_self,List.getElem?_drop,Nat.add_zero];exact hx
theorem Tn{d:Int}{l:List Held}{k:Nat}{x:Held}(hx:l[k]?=some x):(oC d l k).set k { x with spans:=pa x d } = oC d l (k+1):=by
 obtain⟨hl,he⟩:=cQ.1 hx;unfold oC;have hn:((l.take k).map λx:Held=>{ x with spans:=pa x d }).length=k:=by simp;omega
 rw[List.set_append_right _ _ (by omega),hn,Nat.sub_self,fQ hl,he,List.map_append,List.append_assoc];congr 1;rw[<-List.getElem_cons_drop hl,he];rfl
theorem Tl{h:Hist}{k:Nat}(hk:(pubAll h).length<=k):oC h.drift (pubAll h) k=bM h:=by
 unfold oC bM;rw[kQ hk,List.drop_of_length_le hk,List.append_nil]
structure Ent22 where
 signed:Signed
 zone:List UInt8
 til:Int
deriving DecidableEq
def QOk(n:List UInt8)(ty:Int):Prop:=aA n=true/\1<=ty/\ty<=8
def xF(t:Int):Prop:=0<=t/\t<=20000000
noncomputable def sV(h:Hist):Int×List Held:=if yes (VHist h) then (0,bM h) else (1,[])
theorem zT{h:Hist}(k:VHist h):sV h=(0,bM h):=by unfold sV;rw[ba k];rfl
theorem LM{h:Hist}(k:¬ VHist h):sV h=(1,[]):=by unfold sV;rw[aC k];rfl
def zM(h:Hist)(n:List UInt8)(ty t:Int):Prop:=VHist h/\QOk n ty/\xF t
noncomputable def se(h:Hist)(n:List UInt8)(ty t:Int):Int×List Signed:=if yes (zM h n ty t) then (0,fe (bM h) n ty t) else (1,[])
theorem Jk{h:Hist}{n:List UInt8}{ty t:Int}(k:zM h n ty t):se h n ty t=(0,fe (bM h) n ty t):=by unfold se;rw[ba k];rfl
theorem Ek{h:Hist}{n:List UInt8}{ty t:Int}(k:¬ zM h n ty t):se h n ty t=(1,[]):=by unfold se;rw[aC k];rfl
def BL(a b:Ent22):Prop:=a.signed.set.name=b.signed.set.name/\a.signed.set.type=b.signed.set.type/\a.zone=b.zone
structure EntOk(e:Ent22):Prop where
 name:aA e.signed.set.name=true
 zone:aA e.zone=true
 wild:dP e.zone=false
 under:bi e.signed.set.name e.zone=true
 til:1<=e.til/\e.til<=20100001
 kind:(e.signed.set.data = []/\(1<=e.signed.set.type/\e.signed.set.type<=8)/\(0<=e.signed.set.life/\e.signed.set.life<=100000)/\e.signed.sigs = [])\/(e.signed.set.data≠[]/\cN e.signed.set=true/\dY e.zone e.signed.sigs)
structure VCache(l:List Ent22):Prop where
 few:l.length<=400
 each:∀ e∈l,EntOk e
 apart:l.Pairwise λa b=>¬ BL a b
theorem VCache.sub{l m:List Ent22}(h:VCache l)(hm:m.Sublist l):VCache m:=
 ⟨yQ hm.length_le h.few,λe he=>h.each e (hm.subset he),h.apart.sublist hm⟩
def mL(l:List Held)(z:List UInt8)(s:Signed)(t:Int):Bool:=l.any λx=>decide (x.zone=z)&&(decide (x.signed=s)&&fe.l1 x.spans t)
def iS(l:List Held)(t:Int)(e:Ent22):Bool:=e.signed.set.data.isEmpty||(decide (e.til<=t)||mL l e.zone e.signed t)
def jf(l:List Held)(c:List Ent22)(t:Int):Bool:=c.all (iS l t)
def B8(h:Hist)(c:List Ent22)(t:Int):Prop:=VHist h/\VCache c/\xF t
noncomputable def uK(h:Hist)(c:List Ent22)(t:Int):Int×Bool:=if yes (B8 h c t) then (0,jf (bM h) c t) else (1,false)
theorem xG{h:Hist}{c:List Ent22}{t:Int}(k:B8 h c t):uK h c t=(0,jf (bM h) c t):=by unfold uK;rw[ba k];rfl
theorem CQ{h:Hist}{c:List Ent22}{t:Int}(k:¬ B8 h c t):uK h c t=(1,false):=by unfold uK;rw[aC k];rfl
theorem CR{l:List Held}{c d:List Ent22}{t:Int}(h:jf l c t=true)(hd:d.Sublist c):jf l d t=true:=by
 unfold jf at h |-;rw[List.all_eq_true] at h |-;exact λe he=>h e (hd.subset he)
def rp(l:List Held)(n:List UInt8)(ty:Int):List Signed:=(l.filter λx=>(x.signed.set.name == n)&&decide (x.signed.set.type=ty)).map (·.signed)
theorem GB{l:List Held}{n:List UInt8}{ty:Int}{x:Held} : rp (l ++ [x]) n ty=if x.signed.set.name=n/\x.signed.set.type=ty then rp l n ty ++ [x.signed] else rp l n ty:=by
 unfold rp;rw[List.filter_append,List.map_append];by_cases h:x.signed.set.name=n/\x.signed.set.type=ty
 ·have hb:((x.signed.set.name == n)&&decide (x.signed.set.type=ty))=true:=by simp[h.1,h.2]
  rw[Qb h,List.filter_cons,Qb hb];rfl
 ·have hb:((x.signed.set.name == n)&&decide (x.signed.set.type=ty))=false:=by
   rw[Bool.eq_false_iff];intro e;rw[Bool.and_eq_true,beq_iff_eq,Qa] at e;exact h e
  rw[Qc h,List.filter_cons,Qc (by rw[hb];decide)];simp
theorem ZI(l:List Held)(n:List UInt8)(ty t:Int):fe l n ty t=dg (rp (l.filter λx=>fe.l1 x.spans t) n ty):=by
 unfold fe rp;rw[List.filter_filter];congr 2;refine List.filter_congr λx _=>?_;rw[Bool.and_assoc]
theorem Po(l:List Held)(n:List UInt8)(ty t:Int):(fe l n ty t).length<=l.length:=by
 unfold fe;have h:=ua ((l.filter λx=>(x.signed.set.name == n)&&(decide (x.signed.set.type=ty)&&fe.l1 x.spans t)).map (·.signed));rw[List.length_map] at h;exact yQ h (List.length_filter_le _ _)
def mJ(us:List Signed):List (List UInt8×Value):=us.map λs=>(de s,.bool true)
theorem YD(us:List Signed)(s:Signed):mJ (us ++ [s])=mJ us ++ [(de s,.bool true)]:=by simp[mJ]
theorem OO:∀ {us:List Signed} {s:Signed},Plain47 s->(∀ x∈us,Plain47 x)->s∉us->(mJ us).lookup (de s)=none
 | [],_,_,_,_=>rfl
 | x::us,s,hs,hu,hn=>by
   have e:mJ (x::us)=(de x,.bool true)::mJ us:=rfl;have hne:(de s == de x)=false:=beq_eq_false_iff_ne.2 λh=>hn (by rw[D9 hs (hu x (by simp)) h];simp);rw[e,List.lookup_cons,hne];exact OO hs (λy hy=>hu y (mQ _ hy)) (λh=>hn (mQ _ h))
theorem OP:∀ {us:List Signed} {s:Signed},s∈us->(mJ us).lookup (de s)=some (.bool true)
 | [],_,h=>by cases h
 | x::us,s,h=>by
   have e:mJ (x::us)=(de x,.bool true)::mJ us:=rfl;rw[e,List.lookup_cons];by_cases hk:(de s == de x)=true
   ·rw[hk]
   ·rw[Bool.not_eq_true] at hk;rw[hk];refine OP ((List.mem_cons.1 h).resolve_left ?_);rintro rfl;simp at hk
end Np
section
open Go.RowKit
theorem Mr:∀ args w,(callFunc 128 args).run prog w = .ok (.enter 128 args) w:=enters_of func128 (by kernel_rfl) rfl
theorem UH:∀ args w,(callFunc 131 args).run prog w = .ok (.enter 131 args) w:=enters_of func131 (by kernel_rfl) rfl
theorem awY(B b:Nat)(r:Option Nat)(l:List UInt8)(s:ByteArray)(w:World)(h:Bld 198 B b r l w)(hl:l.length<=10000000)(hs:s.size<=100000)(ig:B<=w.heap.size) :
 Calls prog 128 #[.string s,.pointer (some ⟨b,0,none⟩)] w (yO 198 B b r (l++Np.cx [s.data.toList]) (.tuple #[]) w):=by
 have H:=jq h;have cY:s.data.toList.length=s.size:=aX s;have kI:=jq cY;clear h cY;go_enter func128,ntmps128;go_wp2_with fail;refine (JZ xH B b r _ s _ H.out (by omega) (by omega) ig).mono ?_;rintro e w1 ⟨rfl,r1,aB,bp⟩;have aq:=jq aB;have fz:=jq bp;have tH:=bp.size;clear aB bp;go_wp2_with fail;refine (JY xH B b r1 _ 47 47 rfl _ aq.out (by have:=kI.out;simp;omega) (by omega)).mono ?_;rintro e w2 ⟨rfl,r2,ae,iX⟩;have ai:=jq ae;have jz:=jq (fz.out.trans iX);clear ae iX;go_wp2_with fail;go_end0;exact⟨rfl,r2,by have:=ai.out;simpa [Np.cx] using this,jz.out⟩
def TxK(Y Z E n:Nat)(l:List UInt8)(w:World):Prop:=l.length<=n/\Z<w.heap.size/\Y<Z/\(E<w.heap.size/\E≠Y)/\w.cell? ⟨Z,0,none⟩=some (.func (.func 128) #[] #[.pointer (some ⟨Y,0,none⟩)])/\∃ r,Bld 198 Y Y r l w/\r≠some Z/\r≠some E
theorem TxK.word{Y Z E n:Nat}{l:List UInt8}{w:World}(h:TxK Y Z E n l w):w.cell? ⟨Z,0,none⟩=some (.func (.func 128) #[] #[.pointer (some ⟨Y,0,none⟩)]):=h.2.2.2.2.1
theorem TxK.keep{Y Z E n:Nat}{l:List UInt8}{w w':World}(h:TxK Y Z E n l w)(hb:Below w.heap.size w w'):TxK Y Z E n l w':=by
 obtain⟨h1,h2,h3,h7,h4,r,h5,h6⟩:=h;exact⟨h1,lQ h2 hb.size,h3,⟨lQ h7.1 hb.size,h7.2⟩,(hb.cell (p:=⟨Z,0,none⟩) h2).trans h4,r,h5.keep hb,h6⟩
theorem TxK.more{Y Z E n m:Nat}{l:List UInt8}{w:World}(h:TxK Y Z E n l w)(hn:n<=m):TxK Y Z E m l w:=⟨yQ h.1 hn,h.2⟩
theorem TxK.fresh{Y Z E n:Nat}{l:List UInt8}{w w':World}(h:TxK Y Z E n l w)(hb:Below w.heap.size w w')(hz:w.heap.size<w'.heap.size):TxK Y Z w.heap.size n l w':=by
 obtain⟨h1,h2,h3,h7,h4,r,h5,h6,_⟩:=h;exact⟨h1,lQ h2 hb.size,h3,⟨hz,by omega⟩,(hb.cell (p:=⟨Z,0,none⟩) h2).trans h4,r,h5.keep hb,h6,λe=>by have:=(h5.row.2.2 _ e).2;omega⟩
theorem TxK.back{Y Z E n:Nat}{l:List UInt8}{w:World}(h:TxK Y Z E n l w):TxK Y Z Z n l w:=by
 obtain⟨h1,h2,h3,h7,h4,r,h5,h6,_⟩:=h;exact⟨h1,h2,h3,⟨h2,by omega⟩,h4,r,h5,h6,h6⟩
theorem TxK.step{Y Z E n m:Nat}{l l':List UInt8}{w w':World}(h:TxK Y Z E n l w)(hl:l'.length<=m){r:Option Nat}(hr:Bld 198 Y Y r l w)(hz:r≠some Z)(he:r≠some E){r':Option Nat}(hb:Bld 198 Y Y r' l' w')(hs:BS Y r w r' w'):TxK Y Z E m l' w'/\w'.heap[E]?=w.heap[E]?/\Below Y w w':=by
 obtain⟨h1,h2,h3,h7,h4,_⟩:=h;exact⟨⟨hl,lQ h2 hs.size,h3,⟨lQ h7.1 hs.size,h7.2⟩,(hs.cell h2 (by omega) hz 0).trans h4,r',hb,hs.free h2 hz,hs.free h7.1 he⟩,hs.keep E h7.1 h7.2 he,hs.below (bQ _) (λk hk=>(hr.row.2.2 k hk).1) (by have:=hr.row.2.1;omega)⟩
theorem B3(Y Z E n:Nat)(l:List UInt8)(s:ByteArray)(w:World)(h:TxK Y Z E n l w)(hn:n<=10000000)(hs:s.data.toList.length<=1000) :
 Calls prog 128 #[.string s,.pointer (some ⟨Y,0,none⟩)] w λe w'=>e = .returned (.tuple #[])/\TxK Y Z E (n+1001) (l++Np.cx [s.data.toList]) w'/\w'.heap[E]?=w.heap[E]?/\Below Y w w':=by
 have h0:=h;obtain⟨h1,h2,h3,h7,h4,r,h5,h6,h8⟩:=h;refine (awY Y Y r l s w h5 (by omega) (by rw[<-aX];omega) (by omega)).mono λe w' ⟨he,r',hb',hs'⟩=>⟨he,h0.step (by rw[List.length_append,Np.xL,List.length_append,List.length_cons];simp only[Np.cx,List.flatMap_nil,List.length_nil];omega) h5 h6 h8 hb' hs'⟩
theorem sm(Y Z E n:Nat)(l:List UInt8)(k:Int)(h0:0<=k)(h1:k<=9223372036854775807)(w:World)(h:TxK Y Z E n l w)(hn:n<=10000000)(hP:fK w) :
 Calls prog 131 #[.int .i64 k,.pointer (some ⟨Z,0,none⟩)] w λe w'=>e = .returned (.tuple #[])/\TxK Y Z E (n+25) (l++Np.cx [Np.aV k]) w'/\w'.heap[E]?=w.heap[E]?/\Below Y w w':=by
 have H:=jq h;have hz:Z<w.heap.size:=h.2.1;have hY:Y<w.heap.size:=Nat.lt_trans h.2.2.1 hz;have hE:Hid (E<w.heap.size):=jq h.2.2.2.1.1;have hc:w.cell? ⟨Z,0,none⟩=some (.func (.func 128) #[] #[.pointer (some ⟨Y,0,none⟩)]):=h.word;have Hv:∀ g:bE w,g.w.cell? ⟨Z,0,none⟩=some (.func (.func 128) #[] #[.pointer (some ⟨Y,0,none⟩)]):=λg=>(g.cell ⟨Z,0,none⟩ hz).trans hc;have HI:Hid (∀ g:bE w,Calls prog 132 #[.int .i64 k] g.w λe w'=>e = .returned (av (Np.aV k))/\Below g.w.heap.size g.w w'):=jq (λg=>ON k h0 h1 g.w (hP.keep g.below));have HD:Hid ((Np.aV k).length<=20):=jq (uS (by omega));have eg:=Mr;clear h hP;go_enter func131,ntmps131;go_wp2_with fail;refine QX 3 (by kernel_rfl) (by kernel_rfl) ?_;simp only[List.take_succ_cons,List.take_zero,List.drop_succ_cons,List.drop_zero]
 repeat (go_big_quiet_step (fail))
 go_big_quiet_step ((go_at_call 132;exact Calls.grow_of (HI.out _)))
 repeat (go_big_quiet_step (fail))
 refine wpQuiet_nil ?_;rintro _ ⟨g,rfl⟩;have HG:=jq (H.out.keep g.below);have lz:=jq g.below;obtain⟨w1,ah⟩:=aCQ g.w;rw[ah] at HG lz |-;clear Hv ah hc;go_wp2_with fail;refine (B3 Y Z E n l ⟨(Np.aV k).toArray⟩ w1 HG.out (by omega) (by have:=HD.out;simp;omega)).mono ?_;rintro e w2 ⟨rfl,ht,hx,hb⟩;have HT:Hid (TxK Y Z E (n+25) (l++Np.cx [Np.aV k]) w2):=jq ⟨by have:=H.out.1;have:=HD.out;simp[Np.cx];omega,by simpa using ht.2⟩;have HB:=jq ((lz.out.aDQ).trans hb);have HX:=jq (hx.trans (lz.out.block E hE.out));clear ht hb hx;go_wp2_with fail;go_end0;exact⟨rfl,HT.out,HX.out,HB.out⟩
end
namespace Np
theorem O9{l:List Span}{a b:Int}(hf:∀ s∈l,s.frm<s.til)(h:a<b)(ht:∀ t,(a<=t/\t<b)↔inS l t):gX l = [⟨a,b⟩]:=by
 refine (Jg hf ⟨λs hs=>?_,List.pairwise_singleton _ _⟩ λt=>?_).symm
 ·rw[List.mem_singleton] at hs;subst hs;exact h
 ·rw[<-ht t];simp[inS]
end Np
section
open Go.RowKit
theorem Tg{f:List (List UInt8)}{d:List Np.Datum}{k:Nat}{x:Np.Datum}(hx:d[k]?=some x):iA f (d.take k)++Np.cx [x.text]++Np.cx [Np.aV x.n]++Np.cx [Np.aV x.m]=iA f (d.take (k+1)):=by
 rw[LE hx];simp[Np.cx]
theorem Th{f:List (List UInt8)}{d:List Np.Sig}{k:Nat}{x:Np.Sig}(hx:d[k]?=some x):iB f (d.take k)++Np.cx [x.zone]++Np.cx [Np.aV x.key]++Np.cx [Np.aV x.alg]++Np.cx [Np.aV x.frm]++Np.cx [Np.aV x.til]++Np.cx [Np.aV x.sum]=iB f (d.take (k+1)):=by
 rw[LF hx];simp[Np.cx]
theorem IK(s:ByteArray)(ty life:Int)(dv sv:Value)(d:List Np.Datum)(g:List Np.Sig)(w:World)(hP:fK w)(hK:KeyS ⟨⟨s.data.toList,ty,life,d⟩,g⟩)(hd:SlR bK 3 w w.heap.size dv d)(hg:SlR dl 6 w w.heap.size sv g) :
 Calls prog 59 #[.agg #[.string s,.int .i64 ty,.int .i64 life,dv,sv]] w λe w'=>e = .returned (av (Np.de ⟨⟨s.data.toList,ty,life,d⟩,g⟩))/\Below w.heap.size w w':=by
 have HK:=jq hK;have HD:=jq hd;have HG:=jq hg;have HP:=jq hP;have Dn:=hP.lt;have mX:Hid (∀ f,f = [s.data.toList,Np.aV ty,Np.aV life,Np.aV d.length]->iB (f++d.flatMap Np.qu) g=Np.de ⟨⟨s.data.toList,ty,life,d⟩,g⟩):=jq (λf hf=>by subst hf;unfold iB Np.de Np.xM;rw[List.append_assoc]);have sI:Hid ([]++Np.cx [s.data.toList]++Np.cx [Np.aV ty]++Np.cx [Np.aV life]++Np.cx [Np.aV d.length]=iA [s.data.toList,Np.aV ty,Np.aV life,Np.aV d.length] []):=jq (by simp[iA,Np.cx]);have jI:d.length<=100:=hK.few;have nC:g.length<=100:=hK.fewS;obtain⟨A1,c1,rfl,_,_⟩:=ak hd;obtain⟨A2,c2,rfl,_,_⟩:=ak hg;obtain⟨n1,bU⟩:=aCQ d.length;obtain⟨n2,cV⟩:=aCQ g.length;rw[bU] at HD mX sI jI |-;rw[cV] at HG nC |-;have j9:=jq bU;have ux:=jq cV;clear bU cV hd hg hK hP;obtain⟨f0,la⟩:∃ f0,[s.data.toList,Np.aV ty,Np.aV life,Np.aV n1]=f0:=⟨_,rfl⟩;have iv:=jq (mX.out f0 la.symm);rw[la] at sI;clear la mX;obtain⟨X,hX⟩:=aCQ w.heap.size;obtain⟨Y,hY⟩:=aCQ (X+1);obtain⟨Z,hZ⟩:=aCQ (Y+1);obtain⟨W0,dw⟩:=aCQ (w.alloc (.cells #[.string s,.int .i64 ty,.int .i64 life,.slice A1 n1 c1,.slice A2 n2 c2] 42));have db:W0.heap.size=Y:=by rw[<-dw,<-hY,<-hX];simp
 obtain⟨W1,ap⟩:=aCQ (W0.alloc (.cells #[.pointer none,.slice none 0 0] 198));have cE:Below X w W0:=by rw[<-dw];exact (vQ _ _).alloc (Nat.le_of_eq hX.symm) _
 have aB:Below Y W0 W1:=by rw[<-ap];exact (vQ _ _).alloc (Nat.le_of_eq db.symm) _
 have bk:W1.heap.size=Z:=by rw[<-ap,<-hZ,<-db];simp
 have M5:Bld 198 Y Y none [] W1:=by rw[<-ap,<-db];exact Bld.fresh _ _
 obtain⟨W2,cS⟩:=aCQ (W1.alloc (.cells #[.func (.func 128) #[] #[.pointer (some ⟨Y,0,none⟩)]] 204));have ae:Below Z W1 W2:=by rw[<-cS];exact (vQ _ _).alloc (Nat.le_of_eq bk.symm) _
 have aK:Z<W2.heap.size:=by rw[<-cS,<-bk];simp
 have zf:W2.cell? ⟨Z,0,none⟩=some (.func (.func 128) #[] #[.pointer (some ⟨Y,0,none⟩)]):=by rw[<-cS,<-bk];simp[go_sem]
 have iy:Hid (TxK Y Z Z 0 [] W2):=jq ⟨by simp,aK,by omega,⟨aK,by omega⟩,zf,none,M5.keep (ae.aDQ),by simp,by simp⟩;have s6:Below Y W0 W2:=aB.trans (ae.aDQ);have k0:W2.cell? ⟨X,0,none⟩=some (.string s):=aBX s6 (by rw[<-dw,<-hX];simp[go_sem]);have k1:W2.cell? ⟨X,1,none⟩=some (.int .i64 ty):=aBX s6 (by rw[<-dw,<-hX];simp[go_sem]);have k2:W2.cell? ⟨X,2,none⟩=some (.int .i64 life):=aBX s6 (by rw[<-dw,<-hX];simp[go_sem]);have k3:W2.cell? ⟨X,3,none⟩=some (.slice A1 n1 c1):=aBX s6 (by rw[<-dw,<-hX];simp[go_sem]);have k4:W2.cell? ⟨X,4,none⟩=some (.slice A2 n2 c2):=aBX s6 (by rw[<-dw,<-hX];simp[go_sem]);have pq:Hid (fK W2):=jq (HP.out.keepAt (cE.trans (s6.aDQ)) (by omega));have ai:Hid (Below X w W2):=jq (cE.trans (s6.aDQ));have aS:Hid (s.data.toList.length<=1000):=jq HK.out.name;have di:Hid (0<=ty/\ty<=1000000000):=jq HK.out.type;have xl:Hid (0<=life/\life<=1000000000):=jq HK.out.life;have eg1:=Mr;have eg2:=UH;have mC:1<Y:=by omega
 have hYX:X<Y:=by omega
 have hZY:Y<Z:=by omega
 clear cE aB ae s6 M5;rw[hX] at HD HG |-;go_enter func59,ntmps59;go_wp2_with fail;clear dw ap cS hX db bk hY hZ;refine (B3 Y Z Z 0 [] s W2 iy.out (by omega) aS.out).mono ?_;rintro e W3 ⟨rfl,ht,hx,hb⟩;have pt:=jq ht;have am:=aBY ai hb;have sN:=jq (pq.out.keepAt hb mC);replace zf:=ht.word;have eF:Z<W3.heap.size:=ht.2.1;replace k1:=aBX hb k1;replace k2:=aBX hb k2;replace k3:=aBX hb k3;replace k4:=aBX hb k4;clear ht hx hb k0;go_wp2_with fail;refine (sm Y Z Z _ _ ty di.out.1 (by have:=di.out.2;omega) W3 pt.out (by omega) sN.out).mono ?_;rintro e W4 ⟨rfl,ht,hx,hb⟩;have zt:=jq ht;have aP:=aBY am hb;have kG:=jq (sN.out.keepAt hb mC);replace zf:=ht.word;have fd:Z<W4.heap.size:=ht.2.1;replace k2:=aBX hb k2;replace k3:=aBX hb k3;replace k4:=aBX hb k4;clear ht hx hb k1;go_wp2_with fail;refine (sm Y Z Z _ _ life xl.out.1 (by have:=xl.out.2;omega) W4 zt.out (by omega) kG.out).mono ?_;rintro e W5 ⟨rfl,ht,hx,hb⟩;have zu:=jq ht;have cm:=aBY aP hb;have m9:=jq (kG.out.keepAt hb mC);replace zf:=ht.word;have iJ:Z<W5.heap.size:=ht.2.1;replace k3:=aBX hb k3;replace k4:=aBX hb k4;clear ht hx hb k2;go_wp2_with fail;refine (sm Y Z Z _ _ (n1:Int) (by omega) (by omega) W5 zu.out (by omega) m9.out).mono ?_;rintro e W6 ⟨rfl,ht,hx,hb⟩;have Gf:=jq ht;have du:=aBY cm hb;have og:=jq (m9.out.keepAt hb mC);replace zf:=ht.word;have iq:Z<W6.heap.size:=ht.2.1;replace k3:=aBX hb k3;replace k4:=aBX hb k4;clear ht hx hb;go_wp2_with fail;have xw:Hid (TxK Y Z Z 2000 (iA f0 []) W6):=jq (by have h:=Gf.out;rw[sI.out] at h;exact h.more (by omega));clear zf;go_loopw [37] (λi wr=>∃ k:Nat,k<=n1/\i = .int .i64 k/\Z<wr.heap.size/\Hid (TxK Y Z Z (2000 * (k+1)) (iA f0 (d.take k)) wr)/\Hid (Below Y W6 wr)) (λi _=>n1 - (intOf i).toNat)
 case atStart=>exact⟨0,jQ _,rfl,iq,by simpa using xw,jq (vQ _ _)⟩
 case round=>
  obtain⟨k,hk,rfl,VE,HT,bC⟩:=hrel;have HB:=aBY du bC.out;have KY:=jq (og.out.keepAt bC.out mC);have q3:=aBX bC.out k3;have q4:=aBX bC.out k4;clear k3 k4;by_cases aa:k<n1
  ·obtain⟨x,ac⟩:∃ x,d[k]?=some x:=⟨_,aQ (by rw[j9.out];exact aa)⟩;obtain⟨b,o,c',t,hA,bR,_,ht,vP,g0,g1,g2⟩:=C1 (HD.out.keep cM HB.out) ac;simp only[Value.slice.injEq] at hA;obtain⟨rfl,-,rfl⟩:=hA;have HX:=jq (HK.out.data x (gQ ac));have FT:=jq (Tg (f:=f0) ac);have om:=jq ht;have bZ:Hid (t.data.toList.length<=1000):=jq (by rw[ht];exact HX.out.1);clear ac ht vP;have bV:(0:Int)<=(k:Int):=by omega
   have bT:(k:Int)<(n1:Int):=by omega
   obtain⟨E,hE⟩:=aCQ wr.heap.size;obtain⟨w2,aj⟩:=aCQ (wr.alloc (.cells #[.string t,.int .i64 x.n,.int .i64 x.m] 128));have ae:Below wr.heap.size wr w2:=by rw[<-aj];exact (vQ _ _).alloc (bQ _) _
   have aK:wr.heap.size<w2.heap.size:=by rw[<-aj];simp
   have p0:w2.cell? ⟨E,0,none⟩=some (.string t):=by rw[<-aj,<-hE];simp[go_sem]
   have p1:w2.cell? ⟨E,1,none⟩=some (.int .i64 x.n):=by rw[<-aj,<-hE];simp[go_sem]
   have p2:w2.cell? ⟨E,2,none⟩=some (.int .i64 x.m):=by rw[<-aj,<-hE];simp[go_sem]
   have iy:Hid (TxK Y Z E (2000 * (k+1)) (iA f0 (d.take k)) w2):=jq (by rw[<-hE];exact HT.out.fresh ae aK);have ai:Hid (Below Y W6 w2):=aBY bC ae;have pq:=jq (KY.out.keep ae);have zf:=iy.out.word;have I2:Z<w2.heap.size:=by omega
   clear ae aK;go_wp2_with fail;clear aj q3 q4 hE;refine (B3 Y Z E _ _ t w2 iy.out (by omega) bZ.out).mono ?_;rintro e w3 ⟨rfl,ht,hx,hb⟩;have pt:=jq ht;have am:=jq (ai.out.trans hb);have sN:=jq (pq.out.keepAt hb mC);replace zf:=ht.word;have eF:Z<w3.heap.size:=ht.2.1;replace p1:=(iQ (a:=⟨E,1,none⟩) hx).trans p1;replace p2:=(iQ (a:=⟨E,2,none⟩) hx).trans p2;clear ht hx hb p0 I2;go_wp2_with fail;refine (sm Y Z E _ _ x.n HX.out.2.1.1 (by have:=HX.out.2.1.2;omega) w3 pt.out (by omega) sN.out).mono ?_;rintro e w4 ⟨rfl,ht,hx,hb⟩;have zt:=jq ht;have aP:=jq (am.out.trans hb);have kG:=jq (sN.out.keepAt hb mC);replace zf:=ht.word;have fd:Z<w4.heap.size:=ht.2.1;replace p2:=(iQ (a:=⟨E,2,none⟩) hx).trans p2;clear ht hx hb p1;go_wp2_with fail;refine (sm Y Z E _ _ x.m HX.out.2.2.1 (by have:=HX.out.2.2.2;omega) w4 zt.out (by omega) kG.out).mono ?_;rintro e w5 ⟨rfl,ht,hx,hb⟩;have zu:=jq ht;have cm:=jq (aP.out.trans hb);have m9:=jq (kG.out.keepAt hb mC);replace zf:=ht.word;have iJ:Z<w5.heap.size:=ht.2.1;clear ht hx hb p2;go_wp2_with fail;go_roundw
   case rel=>exact⟨k+1,by omega,by go_num,iJ,jq (by have h:=zu.out.back;rw[om.out,FT.out] at h;exact h.more (by omega)),cm⟩
   case measure=>simp[intOf] <;> omega
  ·have bZ:Hid (d.take k=d):=jq (kQ (by rw[j9.out];omega));obtain⟨f1,oL⟩:=aCQ (f0++d.flatMap Np.qu);have sK:=jq iv.out;rw[oL] at sK;have SQ:Hid (TxK Y Z Z 202000 (iB f1 []) wr):=jq (by have h:=HT.out;rw[bZ.out] at h;unfold iA at h;rw[oL] at h;have h2:=h.more (show 2000 * (k+1)<=202000 by omega);simpa [iB] using h2);clear oL HT;go_wp2_with fail;clear aa hk;obtain⟨wo,rfl⟩:=aCY wr;go_loopw [57] (λi wr=>∃ k:Nat,k<=n2/\i = .int .i64 k/\Z<wr.heap.size/\Hid (TxK Y Z Z (202000+4000 * k) (iB f1 (g.take k)) wr)/\Hid (Below Y wo wr)) (λi _=>n2 - (intOf i).toNat)
   case atStart=>exact⟨0,jQ _,rfl,VE,by simpa using SQ,jq (vQ _ _)⟩
   case round=>
    obtain⟨k,hk,rfl,hZs,HT,jx⟩:=hrel;have HC:=aBY HB jx.out;have Sr:=jq (KY.out.keepAt jx.out mC);have s4:=aBX jx.out q4;clear q3 q4;by_cases aa:k<n2
    ·obtain⟨x,ac⟩:∃ x,g[k]?=some x:=⟨_,aQ (by rw[ux.out];exact aa)⟩;obtain⟨b,o,c',t,hA,bR,ht,vP,g0,g1,g2,g3,g4,g5⟩:=mO (HG.out.keep dD HC.out) ac;simp only[Value.slice.injEq] at hA;obtain⟨rfl,-,rfl⟩:=hA;have HX:=jq (HK.out.sigs x (gQ ac));have FT:=jq (Th (f:=f1) ac);have om:=jq ht;have bZ:Hid (t.data.toList.length<=1000):=jq (by rw[ht];exact HX.out.1);clear ac ht vP;have bV:(0:Int)<=(k:Int):=by omega
     have bT:(k:Int)<(n2:Int):=by omega
     obtain⟨E,hE⟩:=aCQ wr.heap.size;obtain⟨w2,aj⟩:=aCQ (wr.alloc (.cells #[.string t,.int .i64 x.key,.int .i64 x.alg,.int .i64 x.frm,.int .i64 x.til,.int .u64 x.sum] 50));have ae:Below wr.heap.size wr w2:=by rw[<-aj];exact (vQ _ _).alloc (bQ _) _
     have aK:wr.heap.size<w2.heap.size:=by rw[<-aj];simp
     have p0:w2.cell? ⟨E,0,none⟩=some (.string t):=by rw[<-aj,<-hE];simp[go_sem]
     have p1:w2.cell? ⟨E,1,none⟩=some (.int .i64 x.key):=by rw[<-aj,<-hE];simp[go_sem]
     have p2:w2.cell? ⟨E,2,none⟩=some (.int .i64 x.alg):=by rw[<-aj,<-hE];simp[go_sem]
     have p3:w2.cell? ⟨E,3,none⟩=some (.int .i64 x.frm):=by rw[<-aj,<-hE];simp[go_sem]
     have p4:w2.cell? ⟨E,4,none⟩=some (.int .i64 x.til):=by rw[<-aj,<-hE];simp[go_sem]
     have p5:w2.cell? ⟨E,5,none⟩=some (.int .u64 x.sum):=by rw[<-aj,<-hE];simp[go_sem]
     have iy:Hid (TxK Y Z E (202000+4000 * k) (iB f1 (g.take k)) w2):=jq (by rw[<-hE];exact HT.out.fresh ae aK);have ai:Hid (Below Y wo w2):=aBY jx ae;have pq:=jq (Sr.out.keep ae);have zf:=iy.out.word;have I2:Z<w2.heap.size:=by omega
     clear ae aK;go_wp2_with fail;clear aj s4 hE;refine (B3 Y Z E _ _ t w2 iy.out (by omega) bZ.out).mono ?_;rintro e w3 ⟨rfl,ht,hx,hb⟩;have pt:=jq ht;have am:=jq (ai.out.trans hb);have sN:=jq (pq.out.keepAt hb mC);replace zf:=ht.word;have eF:Z<w3.heap.size:=ht.2.1;replace p1:=(iQ (a:=⟨E,1,none⟩) hx).trans p1;replace p2:=(iQ (a:=⟨E,2,none⟩) hx).trans p2;replace p3:=(iQ (a:=⟨E,3,none⟩) hx).trans p3;replace p4:=(iQ (a:=⟨E,4,none⟩) hx).trans p4;replace p5:=(iQ (a:=⟨E,5,none⟩) hx).trans p5;clear ht hx hb p0 I2;go_wp2_with fail;refine (sm Y Z E _ _ x.key HX.out.2.1.1 (by have:=HX.out.2.1.2;omega) w3 pt.out (by omega) sN.out).mono ?_;rintro e w4 ⟨rfl,ht,hx,hb⟩;have zt:=jq ht;have aP:=jq (am.out.trans hb);have kG:=jq (sN.out.keepAt hb mC);replace zf:=ht.word;have fd:Z<w4.heap.size:=ht.2.1;replace p2:=(iQ (a:=⟨E,2,none⟩) hx).trans p2;replace p3:=(iQ (a:=⟨E,3,none⟩) hx).trans p3;replace p4:=(iQ (a:=⟨E,4,none⟩) hx).trans p4;replace p5:=(iQ (a:=⟨E,5,none⟩) hx).trans p5;clear ht hx hb p1;go_wp2_with fail;refine (sm Y Z E _ _ x.alg HX.out.2.2.1.1 (by have:=HX.out.2.2.1.2;omega) w4 zt.out (by omega) kG.out).mono ?_;rintro e w5 ⟨rfl,ht,hx,hb⟩;have zu:=jq ht;have cm:=jq (aP.out.trans hb);have m9:=jq (kG.out.keepAt hb mC);replace zf:=ht.word;have iJ:Z<w5.heap.size:=ht.2.1;replace p3:=(iQ (a:=⟨E,3,none⟩) hx).trans p3;replace p4:=(iQ (a:=⟨E,4,none⟩) hx).trans p4;replace p5:=(iQ (a:=⟨E,5,none⟩) hx).trans p5;clear ht hx hb p2;go_wp2_with fail;refine (sm Y Z E _ _ x.frm HX.out.2.2.2.1.1 (by have:=HX.out.2.2.2.1.2;omega) w5 zu.out (by omega) m9.out).mono ?_;rintro e w6 ⟨rfl,ht,hx,hb⟩;have Gf:=jq ht;have du:=jq (cm.out.trans hb);have og:=jq (m9.out.keepAt hb mC);replace zf:=ht.word;have iq:Z<w6.heap.size:=ht.2.1;replace p4:=(iQ (a:=⟨E,4,none⟩) hx).trans p4;replace p5:=(iQ (a:=⟨E,5,none⟩) hx).trans p5;clear ht hx hb p3;go_wp2_with fail;refine (sm Y Z E _ _ x.til HX.out.2.2.2.2.1.1 (by have:=HX.out.2.2.2.2.1.2;omega) w6 Gf.out (by omega) og.out).mono ?_;rintro e w7 ⟨rfl,ht,hx,hb⟩;have xw:=jq ht;have cr:=jq (du.out.trans hb);have FW:=jq (og.out.keepAt hb mC);replace zf:=ht.word;have nN:Z<w7.heap.size:=ht.2.1;replace p5:=(iQ (a:=⟨E,5,none⟩) hx).trans p5;clear ht hx hb p4;have Yd:E<w7.heap.size:=xw.out.2.2.2.1.1;have Hv:∀ g:bE w7,g.w.cell? ⟨Z,0,none⟩=some (.func (.func 128) #[] #[.pointer (some ⟨Y,0,none⟩)]):=λg=>(g.cell ⟨Z,0,none⟩ nN).trans zf;have V9:∀ g:bE w7,g.w.cell? ⟨E,5,none⟩=some (.int .u64 x.sum):=λg=>(g.cell ⟨E,5,none⟩ Yd).trans p5;have HI:Hid (∀ g:bE w7,Calls prog 133 #[.int .u64 x.sum,.int .i64 10] g.w λe w'=>e = .returned (av (Np.aV x.sum))/\Below g.w.heap.size g.w w'):=jq (λg=>MG x.sum HX.out.2.2.2.2.2.1 HX.out.2.2.2.2.2.2 g.w (FW.out.keep g.below));have kI:Hid ((Np.aV x.sum).length<=20):=jq (uS HX.out.2.2.2.2.2.2);go_wp2_with fail;refine QX 4 (by kernel_rfl) (by kernel_rfl) ?_;simp only[List.take_succ_cons,List.take_zero,List.drop_succ_cons,List.drop_zero]
     repeat (go_big_quiet_step (fail))
     go_big_quiet_step ((go_at_call 133;exact Calls.grow_of (HI.out _)))
     repeat (go_big_quiet_step (fail))
     refine wpQuiet_nil ?_;rintro _ ⟨g,rfl⟩;have K9:=jq (xw.out.keep g.below);have ew:=jq (cr.out.trans (g.below.mono (show Y<=w7.heap.size by omega)));obtain⟨w8,eZ⟩:=aCQ g.w;rw[eZ] at K9 ew |-;clear Hv V9 eZ p5 zf;go_wp2_with fail;refine (B3 Y Z E _ _ ⟨(Np.aV x.sum).toArray⟩ w8 K9.out (by omega) (by have:=kI.out;simp;omega)).mono ?_;rintro e w9 ⟨rfl,ht,hx,hb⟩;have SN:=jq ht.back;have eS:=jq (ew.out.trans hb);have tN:=ht.2.1;clear ht hx hb;go_wp2_with fail;go_roundw
     case rel=>exact⟨k+1,by omega,by go_num,tN,jq (by have h:=SN.out;rw[om.out] at h;rw[<-FT.out];exact TxK.more (by simpa using h) (by omega)),eS⟩
     case measure=>simp[intOf] <;> omega
    ·have SO:Hid (g.take k=g):=jq (kQ (by rw[ux.out];omega));obtain⟨-,-,-,-,-,r,bD,-,-⟩:=HT.out;rw[SO.out,sK.out] at bD;have fy:=jq bD;clear bD;go_wp2_with fail;refine (Qt Y Y _ wr fy.out.read).mono ?_;rintro e w9 ⟨rfl,_,fN⟩;have eS:=aBY HC fN;clear fN;go_wp2_with fail;go_ret;exact⟨rfl,eS.out⟩
theorem T5(a:ByteArray)(v:Value)(l:List Np.Sig)(w:World)(h:SlR dl 6 w w.heap.size v l) :
 Calls prog 221 #[v,.string a] w (aFQ w.heap.size w (.bool (Np.yes (Np.dY a.data.toList l)))):=by
 obtain⟨r,hr⟩:=aCQ (Np.yes (Np.dY a.data.toList l));rw[hr];have HR:=jq hr;have H:=jq h;obtain⟨A,c,rfl,bq,bN⟩:=ak h;clear h hr;by_cases h6:l.length<=6
 ·have H6:=jq h6;go_enter func221,ntmps221;go_wp2_with fail;go_loopw [12] (λi wr=>∃ k:Nat,k<=l.length/\i = .int .i64 k/\Hid (Below w.heap.size w wr)/\Hid (∀ j g,j<k->l[j]?=some g->Np.SigOk a.data.toList l j g)) (λi _=>l.length - (intOf i).toNat)
  case atStart=>exact⟨0,jQ _,rfl,jq (vQ _ _),jq (λj g hj=>by omega)⟩
  case round=>
   obtain⟨k,hk,rfl,HB,HA⟩:=hrel;by_cases aa:k<l.length
   ·have cY:=H.out.keep dD HB.out;have ac:=aQ aa;obtain⟨b,o,c',s,hA,bR,hs,an,e0,e1,e2,e3,e4,e5⟩:=mO cY ac
    cases hA
    have pV:=aQ (show 0<l.length by omega);obtain⟨b',o',c'',s',hA,_,_,_,_,z1,z2,z3,z4,_⟩:=mO cY pV;simp only[Value.slice.injEq,Option.some.injEq,Addr.mk.injEq,and_true,true_and] at hA;obtain⟨⟨rfl,rfl⟩,-⟩:=hA;simp only[Nat.zero_mul,Nat.add_zero] at z3 z4;have HN:Hid (∀ h:Np.SigOk a.data.toList l k l[k],∀ j g,j<k+1->l[j]?=some g->Np.SigOk a.data.toList l j g):=jq (λh=>Ju ac HA.out h);have HF:Hid (¬ Np.SigOk a.data.toList l k l[k]->r=false):=jq (λh=>HR.out ▸ I5 ac h);have HZ:=jq pV;have qh:=jq ac;have HS:=jq hs;have xW:=HB.out.size;have s9:b<wr.heap.size:=by omega
    have aY:Hid (∀ o n,Below w.heap.size w ((wr.alloc o).drewN n)):=jq (λo n=>below_drewN (HB.out.alloc HB.out.size _) _);have mS:Hid (∀ o,Below w.heap.size w (wr.alloc o)):=jq (λo=>(HB.out.alloc HB.out.size _));have bV:(0:Int)<=(k:Int):=by omega
    have bT:(k:Int)<(l.length:Int):=by omega
    have bk:(0:Int)<(l.length:Int):=by omega
    have zk:Hid (∀ m,k=m+1->∃ y,l[m]?=some y/\wr.cell? ⟨b,o+m * 6+1,none⟩=some (.int .i64 y.key)):=jq (λm hm=>by
     obtain⟨b2,o2,c2,s2,hA,_,_,_,_,y1,_⟩:=mO cY (aQ (show m<l.length by omega));simp only[Value.slice.injEq,Option.some.injEq,Addr.mk.injEq,and_true,true_and] at hA;obtain⟨⟨rfl,rfl⟩,-⟩:=hA;exact⟨_,aQ (by omega),y1⟩)
    generalize l[k]=x at *;generalize l[0]=x0 at *;clear cY hs ac pV z1 z2;have nA:((!s.toList == a.toList)=true)\/(!s.toList == a.toList)=false/\(decide (x.key<1)=true\/decide (x.key<1)=false/\(decide (1000000<x.key)=true\/decide (1000000<x.key)=false/\(decide (x.alg<1)=true\/decide (x.alg<1)=false/\(decide (3<x.alg)=true\/decide (3<x.alg)=false)))):=by
     simp only[Qa,decide_eq_false_iff_not];by_cases q:s.toList=a.toList
     ·simp[q];omega
     ·exact .inl (by simpa using q)
    rcases nA with d1 | ⟨d1,d2 | ⟨d2,d3 | ⟨d3,d4 | ⟨d4,d5 | d5⟩⟩⟩⟩
    rotate_right
    ·by_cases gC:k=0
     ·have dX:x0=x:=by
       have h1:=HZ.out;rw[<-gC,qh.out] at h1;exact (Option.some.inj h1).symm
      have jj:decide ((0:Int)<(k:Int))=false:=by simp;omega
      have jk:decide (0<k)=false:=by simp;omega
      have c1:(x.frm != x0.frm)=false:=by rw[dX];simp
      have c2:(x.til != x0.til)=false:=by rw[dX];simp
      have Lj:=jq dX;have re:=jq gC;clear gC dX;have Hs:(decide (x.frm<0)=true)\/decide (x.frm<0)=false/\(decide (x.til<x.frm)=true\/decide (x.til<x.frm)=false/\(decide (20000000<x.til)=true\/decide (20000000<x.til)=false)):=by
       simp only[Qa,decide_eq_false_iff_not];omega
      rcases Hs with d6 | ⟨d6,d7 | ⟨d7,d8 | d8⟩⟩
      rotate_right
      ·have bl:Hid (Np.SigOk a.data.toList l k x):=jq (by
        have e1:s.toList=a.toList:=by simpa using d1
        rw[dQ,dQ] at e1;simp only[decide_eq_false_iff_not] at d2 d3 d4 d5 d6 d7 d8;refine⟨by rw[<-HS.out,e1],by omega,by omega,by omega,λq hq=>?_,λp _ h0=>by have:=re.out;omega⟩;rw[HZ.out] at hq;cases hq;rw[Lj.out];exact⟨rfl,rfl⟩)
       go_wp2_with fail;go_quiet (fail);go_wp2_with fail;go_roundw
       case rel=>exact⟨k+1,by omega,by go_num,jq (aY.out _ _),jq (HN.out bl.out)⟩
       case measure=>simp[intOf] <;> omega
      all_goals
       go_wp2_with fail;go_quiet (fail);go_wp2_with fail;go_ret;refine⟨ag (HF.out ?_).symm,aY.out _ _⟩;intro dO;obtain⟨k1,k2,k3,k4,_,_⟩:=dO;simp only[Qa,decide_eq_false_iff_not] at *;omega
     ·obtain⟨m,rfl⟩:∃ m,k=m+1:=⟨k - 1,by omega⟩;obtain⟨y,hy,y1⟩:=zk.out m rfl;have HY:=jq hy;have jj:decide ((0:Int)<((m+1:Nat):Int))=true:=by simp
      have ah:IntKind.i64.wrap (((m+1:Nat):Int) - 1)=(m:Int):=by rw[IntWalk.i64_in _ (by omega)];omega
      have nE:(0:Int)<=(m:Int):=by omega
      have qE:(m:Int)<(l.length:Int):=by omega
      have Hr:((x.frm != x0.frm)=true)\/(x.frm != x0.frm)=false/\((x.til != x0.til)=true\/(x.til != x0.til)=false/\(decide (x.key<=y.key)=true\/decide (x.key<=y.key)=false)):=by
       simp only[bne_iff_ne,bne_eq_false_iff_eq,Qa,decide_eq_false_iff_not];omega
      clear hy gC;rcases Hr with c1 | ⟨c1,c2 | ⟨c2,c3 | c3⟩⟩
      rotate_right
      ·have Hs:(decide (x.frm<0)=true)\/decide (x.frm<0)=false/\(decide (x.til<x.frm)=true\/decide (x.til<x.frm)=false/\(decide (20000000<x.til)=true\/decide (20000000<x.til)=false)):=by
        simp only[Qa,decide_eq_false_iff_not];omega
       rcases Hs with d6 | ⟨d6,d7 | ⟨d7,d8 | d8⟩⟩
       rotate_right
       ·have bl:Hid (Np.SigOk a.data.toList l (m+1) x):=jq (by
         have e1:s.toList=a.toList:=by simpa using d1
         rw[dQ,dQ] at e1;simp only[decide_eq_false_iff_not,bne_eq_false_iff_eq] at d2 d3 d4 d5 d6 d7 d8 c1 c2 c3;refine⟨by rw[<-HS.out,e1],by omega,by omega,by omega,λq hq=>?_,λp hp h0=>?_⟩
         ·rw[HZ.out] at hq;cases hq;exact⟨c1,c2⟩
         ·rw[show m+1 - 1=m by omega,HY.out] at hp;cases hp;omega)
        go_wp2_with fail;go_quiet (fail);go_wp2_with fail;go_roundw
        case rel=>exact⟨m+1+1,by omega,by go_num,jq (aY.out _ _),jq (HN.out bl.out)⟩
        case measure=>simp[intOf] <;> omega
       all_goals
        go_wp2_with fail;go_quiet (fail);go_wp2_with fail;go_ret;refine⟨ag (HF.out ?_).symm,aY.out _ _⟩;intro dO;obtain⟨k1,k2,k3,k4,_,_⟩:=dO;simp only[Qa,decide_eq_false_iff_not] at *;omega
      all_goals
       go_wp2_with fail;go_quiet (fail);go_wp2_with fail;go_ret;refine⟨ag (HF.out ?_).symm,aY.out _ _⟩;intro dO;have k5:=dO.same _ HZ.out;have k6:=dO.up _ HY.out (by omega);simp only[bne_iff_ne,bne_eq_false_iff_eq,Qa,decide_eq_false_iff_not] at *;omega
    all_goals
     go_wp2_with fail;go_ret;refine⟨ag (HF.out ?_).symm,mS.out _⟩;intro dO;obtain⟨k1,k2,k3,k4,_,_⟩:=dO
     first
      | (rw[dQ,dQ,HS.out,k1] at d1;simp at d1;done)
      | (simp only[Qa,decide_eq_false_iff_not] at *;omega)
   ·go_wp2_with fail;go_ret;refine⟨ag ?_,HB.out⟩;rw[<-HR.out];exact (Np.ba ⟨H6.out,λj g hg=>HA.out j g (by have:=(cQ.1 hg).1;omega) hg⟩).symm
 ·have h6':6<l.length:=by omega
  have HF:Hid (r=false):=jq (by rw[<-HR.out];exact Np.aC λhf=>h6 hf.1);clear h6;go_enter func221,ntmps221;go_wp2_with fail;go_ret;exact⟨ag HF.out.symm,vQ _ _⟩
theorem Qk{α:Type}{R:aFJ α}{sz:Nat}{w:World}{B:Nat}{v:Value}{xs:List α}(h:SlR R sz w B v xs):∃ A n c,v = .slice A n c:=by
 obtain⟨A,c,rfl,_⟩:=ak h;exact⟨_,_,_,rfl⟩
theorem P2(x y:Np.Signed)(s1 s2:ByteArray)(h1:s1.data.toList=x.set.name)(h2:s2.data.toList=y.set.name)(v1 u1 v2 u2:Value)(w:World)(fG:SlR bK 3 w w.heap.size v1 x.set.data)(tg:SlR dl 6 w w.heap.size u1 x.sigs)(kZ:SlR bK 3 w w.heap.size v2 y.set.data)(AU:SlR dl 6 w w.heap.size u2 y.sigs) :
 Calls prog 20 #[.agg #[.string s1,.int .i64 x.set.type,.int .i64 x.set.life,v1,u1],.agg #[.string s2,.int .i64 y.set.type,.int .i64 y.set.life,v2,u2]] w (aFQ w.heap.size w (.bool (decide (x=y)))):=by
 refine (amQ s1 s2 _ _ _ _ v1 v2 u1 u2 _ _ _ _ w fG kZ tg AU).mono λe w' ⟨he,hb⟩=>⟨he.trans ?_,hb⟩;congr 2;rw[decide_eq_decide];obtain⟨⟨nx,tx,lx,dx⟩,gx⟩:=x;obtain⟨⟨ny,ty,ly,dy⟩,gy⟩:=y;dsimp only at h1 h2 |-;simp only[Np.Signed.mk.injEq,Np.DSet.mk.injEq];refine and_congr (and_congr ⟨λh=>by rw[<-h1,<-h2,h],λh=>mR (by rw[h1,h2,h])⟩ Iff.rfl) Iff.rfl
end
end Go.Proofs.YtfnopgdcaanaiaaGreatDoor
