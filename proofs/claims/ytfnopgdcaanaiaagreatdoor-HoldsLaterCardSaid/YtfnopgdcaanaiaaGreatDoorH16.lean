/- Parts of the proof. No condition. -/
import Derived.Test.YtfnopgdcaanaiaaGreatDoorH11
set_option linter.all false
set_option maxRecDepth 100000
set_option maxHeartbeats 8000000
namespace Go.Proofs.YtfnopgdcaanaiaaGreatDoor
open Go.Proofs.Tryz
section
open Go.RowKit
structure Np.ApexH(a:List UInt8)(l:List Np.Signed):Prop where
 start:Np.iM l a 4
 server:Np.iM l a 2
 fits:∀ x∈l,Np.iI x.set.type (x.set.name == a)=true
theorem Q4(a:ByteArray)(ha:a.size<=140737488355328)(na:Np.aC a.data.toList=true)(v:Value)(l:List Np.Signed)(bI:l.length<=20000)(hv:∀ x∈l,Np.aC x.set.name=true)(hs:Np.sN l)(w:World)(hd:SlR bh 5 w w.heap.size v l) :
 Calls prog 199 #[.agg #[.string a,v]] w λe w'=>e = .returned (.bool (Np.yes (Np.ApexH a.data.toList l)))/\Below w.heap.size w w':=by
 obtain⟨r,hr⟩:∃ r,Np.yes (Np.ApexH a.data.toList l)=r:=⟨_,rfl⟩;rw[hr];have HR:=jq hr;have HV:=jq hv;have HS:=jq hs;have HD:=jq hd;have NA:=jq na;obtain⟨A,c,rfl,bw,bT⟩:=al hd;clear hr hv hs hd na;have HW:Hid (∀ o o',Below w.heap.size w ((w.alloc o).alloc o')):=jq (λo o'=>((vQ _ w).alloc (bQ _) _).alloc (by simp) _);go_enter func199,ntmps199;go_wp2_with fail;obtain⟨w1,ah⟩:∃ w1,(w.alloc (.cells #[.string a,.slice A l.length c] 263)).alloc (.cells #[.int .i64 4,.int .i64 2] 3)=w1:=⟨_,rfl⟩;have c0:w1.cell? ⟨w.heap.size,0,none⟩=some (.string a):=by rw[<-ah];simp[go_sem]
 have c1:w1.cell? ⟨w.heap.size,1,none⟩=some (.slice A l.length c):=by rw[<-ah];simp[go_sem]
 have c2:w1.cell? ⟨w.heap.size+1,0,none⟩=some (.int .i64 4):=by rw[<-ah];simp[go_sem]
 have c3:w1.cell? ⟨w.heap.size+1,1,none⟩=some (.int .i64 2):=by rw[<-ah];simp[go_sem]
 have du:w1.heap.size=w.heap.size+2:=by rw[<-ah];simp
 have aq:Hid (Below w.heap.size w w1):=jq (by rw[<-ah];exact HW.out _ _);rw[ah];clear ah;go_loopw [11] (λi wr=>Hid (Below w1.heap.size w1 wr)/\(i = .int .i64 0\/(i = .int .i64 1/\Hid (Np.iM l a.data.toList 4))\/(i = .int .i64 2/\Hid (Np.iM l a.data.toList 4)/\Hid (Np.iM l a.data.toList 2)))) (λi _=>2 - (intOf i).toNat)
 case atStart=>exact⟨jq (vQ _ _),.inl rfl⟩
 case round=>
  obtain⟨HB,hi⟩:=hrel;have an:=HB.out.size;obtain⟨bc,bf⟩:=qJ HB.out;have d0:wr.cell? ⟨w.heap.size,0,none⟩=some (.string a):=by rw[bc _ _ (by omega)];exact c0
  have d1:wr.cell? ⟨w.heap.size,1,none⟩=some (.slice A l.length c):=by rw[bc _ _ (by omega)];exact c1
  have d2:wr.cell? ⟨w.heap.size+1,0,none⟩=some (.int .i64 4):=by rw[bc _ _ (by omega)];exact c2
  have d3:wr.cell? ⟨w.heap.size+1,1,none⟩=some (.int .i64 2):=by rw[bc _ _ (by omega)];exact c3
  clear bc bf;have aw:=jq (aq.out.trans (HB.out.mono (by omega)));have De:=jq ((HD.out.keep aX aw.out).more cj (show w.heap.size<=wr.heap.size by omega));have cZ:w.heap.size+1<wr.heap.size:=by omega
  have Tu:w.heap.size<wr.heap.size:=by omega
  rcases hi with rfl | ⟨rfl,H4⟩ | ⟨rfl,H4,H2⟩
  ·go_wp2_with fail;refine (JX a _ l bI HV.out HS.out a ha 4 NA.out _ De.out).mono ?_;rintro e w2 ⟨rfl,hb⟩;have aj:=jq hb;have aJ:=hb.size;clear hb
   cases hk:Np.yes (Np.iM l a.data.toList 4) with
   | true=>
    have HK:=jq hk;clear hk;go_wp2_with fail;go_roundw
    case rel=>exact⟨jq (HB.out.trans (aj.out.mono HB.out.size)),.inr (.inl ⟨by go_num,jq (Np.ew.1 HK.out)⟩)⟩
    case measure=>simp[intOf] <;> omega
   | false=>
    have HK:=jq hk;clear hk;go_wp2_with fail;go_ret;refine⟨ae ?_,aw.out.trans (aj.out.mono (by omega))⟩;rw[<-HR.out];refine (Np.aF λh=>?_).symm
    have:=Np.bB h.start
    rw[HK.out] at this
    cases this
  ·go_wp2_with fail;refine (JX a _ l bI HV.out HS.out a ha 2 NA.out _ De.out).mono ?_;rintro e w2 ⟨rfl,hb⟩;have aj:=jq hb;have aJ:=hb.size;clear hb
   cases hk:Np.yes (Np.iM l a.data.toList 2) with
   | true=>
    have HK:=jq hk;clear hk;go_wp2_with fail;go_roundw
    case rel=>exact⟨jq (HB.out.trans (aj.out.mono HB.out.size)),.inr (.inr ⟨by go_num,H4,jq (Np.ew.1 HK.out)⟩)⟩
    case measure=>simp[intOf] <;> omega
   | false=>
    have HK:=jq hk;clear hk;go_wp2_with fail;go_ret;refine⟨ae ?_,aw.out.trans (aj.out.mono (by omega))⟩;rw[<-HR.out];refine (Np.aF λh=>?_).symm
    have:=Np.bB h.server
    rw[HK.out] at this
    cases this
  ·go_wp2_with fail;clear d2 d3 c0 c1 c2 c3;obtain⟨w5,rfl⟩:∃ w5,w5=wr:=⟨_,rfl⟩;go_loopw [32] (λi wx=>∃ k:Nat,k<=l.length/\i = .int .i64 k/\Hid (Below w5.heap.size w5 wx)/\Hid (∀ j x,j<k->l[j]?=some x->Np.iI x.set.type (x.set.name == a.data.toList)=true)) (λi _=>l.length - (intOf i).toNat)
   case atStart=>exact⟨0,jQ _,rfl,jq (vQ _ _),jq (λj g hj=>by omega)⟩
   case round=>
    obtain⟨k,hk,rfl,HX,HA⟩:=hrel;by_cases aa:k<l.length
    ·have ab:=aQ aa;obtain⟨b,o,c',sn,dv,sv,hA,bJ,_,ay,cw,aW,aM,e0,e1,e2,e3,e4⟩:=eq (De.out.keep aX HX.out) ab
     cases hA
     generalize hx:l[k]=x at *;clear hx;obtain⟨Ad,cd,rfl,_,_⟩:=al aW;obtain⟨As,cs,rfl,_,_⟩:=al aM;have l3:=HX.out.size;have g0:wr.cell? ⟨w.heap.size,0,none⟩=some (.string a):=by rw[HX.out.cell (by simpa using Tu)];exact d0
     have eF:w.heap.size<wr.heap.size:=by omega
     have heq:(sn.toList == a.toList)=(x.set.name == a.data.toList):=by rw[dQ,dQ,ay]
     have r9:Hid (Np.iI x.set.type (x.set.name == a.data.toList)=true->∀ j y,j<k+1->l[j]?=some y->Np.iI y.set.type (y.set.name == a.data.toList)=true):=jq (λh j y hj hy=>by
      by_cases e:j=k
      ·subst e;rw[ab] at hy;cases hy;exact h
      ·exact HA.out j y (by omega) hy)
     have Di:Hid (Np.iI x.set.type (x.set.name == a.data.toList)=false->r=false):=jq (λh=>by
      rw[<-HR.out];exact Np.aF λq=>by have:=q.fits x (gQ ab);rw[h] at this;cases this)
     have aZ:Hid (∀ o,Below w5.heap.size w5 (wr.alloc o)):=jq (λo=>HX.out.alloc HX.out.size _);generalize (x.set.name == a.data.toList)=bb at *;clear ab ay aW aM
     cases hf:Np.iI x.set.type bb with
     | true=>
      have HF:=jq hf;go_wp2_with (go_at_call 271;refine (JY _ _ _).mono ?_;rintro e w' ⟨rfl,rfl⟩);go_roundw
      case rel=>exact⟨k+1,by omega,by go_num,jq (aZ.out _),jq (r9.out HF.out)⟩
      case measure=>simp[intOf] <;> omega
     | false=>
      have HF:=jq hf;go_wp2_with (go_at_call 271;refine (JY _ _ _).mono ?_;rintro e w' ⟨rfl,rfl⟩);go_ret;exact⟨ae (Di.out HF.out).symm,aw.out.trans ((aZ.out _).mono (by omega))⟩
    ·go_wp2_with fail;go_ret;refine⟨ae ?_,aw.out.trans (HX.out.mono (by omega))⟩;rw[<-HR.out];refine (Np.bB ⟨H4.out,H2.out,λx hx=>?_⟩).symm;obtain⟨j,hj,rfl⟩:=nQ.1 hx;exact HA.out j _ (by omega) (aQ hj)
theorem Nb(t:Int)(b:Bool)(w:World) :
 Calls prog 236 #[.int .i64 t,.bool b] w λe w'=>e = .returned (.bool (Np.iI t b))/\w=w':=by
 by_cases h3:t=3
 ·subst h3
  cases b
  all_goals
   go_enter func236,ntmps236;go_wp2_with fail;go_ret;exact⟨rfl,rfl⟩
 ·by_cases h6:t=6
  ·subst h6
   cases b
   all_goals
    go_enter func236,ntmps236;go_wp2_with fail;go_ret;exact⟨rfl,rfl⟩
  ·by_cases h4:t=4
   ·subst h4
    cases b
    all_goals
     go_enter func236,ntmps236;go_wp2_with fail;go_ret;exact⟨rfl,rfl⟩
   ·by_cases h7:t=7
    ·subst h7
     cases b
     all_goals
      go_enter func236,ntmps236;go_wp2_with fail;go_ret;exact⟨rfl,rfl⟩
    ·have HF:Hid (Np.iI t b=true):=jq (by unfold Np.iI;rw[Qc (by omega),Qc (by omega)]);have g3:(t != 3)=true:=by simpa using h3
     have g6:(t != 6)=true:=by simpa using h6
     have g4:(t != 4)=true:=by simpa using h4
     have g7:(t != 7)=true:=by simpa using h7
     rw[HF.out];clear h3 h6 h4 h7
     cases b
     all_goals
      go_enter func236,ntmps236;go_wp2_with fail;go_ret;exact⟨rfl,rfl⟩
def Np.atI(l:List Np.Signed)(n:List UInt8)(t:Int):Int:=match l.findIdx? λx=>(x.set.name == n)&&decide (x.set.type=t) with | none=>-1 | some i=>i
theorem Jr{l:List Np.Signed}{n:List UInt8}{t:Int}(h:∀ (j:Nat) (x:Np.Signed),l[j]?=some x->¬ (x.set.name=n/\x.set.type=t)):Np.atI l n t = -1:=by
 unfold Np.atI
 have:l.findIdx? (λx=>(x.set.name == n)&&decide (x.set.type=t))=none:=by
  rw[List.findIdx?_eq_none_iff];intro x hx;obtain⟨j,hj,rfl⟩:=nQ.1 hx
  have:=h j _ (aQ hj)
  rw[Bool.and_eq_false_iff];by_cases e:l[j].set.name=n
  ·right;simpa using λe2=>this ⟨e,e2⟩
  ·left;simpa using e
 rw[this]
theorem Rb{l:List Np.Signed}{n:List UInt8}{t:Int}{k:Nat}{x:Np.Signed}(hx:l[k]?=some x)(he:x.set.name=n/\x.set.type=t)(h:∀ (j:Nat) (y:Np.Signed),j<k->l[j]?=some y->¬ (y.set.name=n/\y.set.type=t)):Np.atI l n t=k:=by
 unfold Np.atI;obtain⟨hk,rfl⟩:=cQ.1 hx
 have:l.findIdx? (λx=>(x.set.name == n)&&decide (x.set.type=t))=some k:=by
  rw[List.findIdx?_eq_some_iff_getElem];refine⟨hk,by simp[he.1,he.2],λj hj=>?_⟩
  have:=h j _ hj (aQ (by omega))
  simpa using this
 rw[this]
theorem Jq(l:List Np.Signed)(n:List UInt8)(t:Int):(Np.atI l n t<0)↔¬ Np.iM l n t:=by
 by_cases h:Np.iM l n t
 ·obtain⟨x,hx,h1,h2⟩:=h;refine⟨λaa=>?_,λhn=>absurd ⟨x,hx,h1,h2⟩ hn⟩;unfold Np.atI at aa
  cases hf:l.findIdx? (λx=>(x.set.name == n)&&decide (x.set.type=t)) with
  | none=>
   rw[List.findIdx?_eq_none_iff] at hf
   have:=hf x hx
   simp[h1,h2] at this
  | some i=>rw[hf] at aa;dsimp only at aa;omega
 ·refine⟨λ_=>h,λ_=>?_⟩;rw[Jr (λj x hx he=>h ⟨x,gQ hx,he⟩)];decide
theorem M8(a:ByteArray)(v:Value)(l:List Np.Signed)(q:ByteArray)(t:Int)(w:World)(hd:SlR bh 5 w w.heap.size v l) :
 Calls prog 235 #[.agg #[.string a,v],.agg #[.string q,.int .i64 t]] w λe w'=>e = .returned (.int .i64 (Np.atI l q.data.toList t))/\Below w.heap.size w w':=by
 obtain⟨r,hr⟩:∃ r,Np.atI l q.data.toList t=r:=⟨_,rfl⟩;rw[hr];have HR:=jq hr;have HD:=jq hd;obtain⟨A,c,rfl,bw,bT⟩:=al hd;clear hr hd;have HW:Hid (∀ o o',Below w.heap.size w ((w.alloc o).alloc o')):=jq (λo o'=>((vQ _ w).alloc (bQ _) _).alloc (by simp) _);go_enter func235,ntmps235;go_wp2_with fail;obtain⟨w1,ah⟩:∃ w1,(w.alloc (.cells #[.string a,.slice A l.length c] 44)).alloc (.cells #[.string q,.int .i64 t] 31)=w1:=⟨_,rfl⟩;have c1:w1.cell? ⟨w.heap.size,1,none⟩=some (.slice A l.length c):=by rw[<-ah];simp[go_sem]
 have q0:w1.cell? ⟨w.heap.size+1,0,none⟩=some (.string q):=by rw[<-ah];simp[go_sem]
 have q1:w1.cell? ⟨w.heap.size+1,1,none⟩=some (.int .i64 t):=by rw[<-ah];simp[go_sem]
 have bj:w1.heap.size=w.heap.size+2:=by rw[<-ah];simp
 have aq:Hid (Below w.heap.size w w1):=jq (by rw[<-ah];exact HW.out _ _);rw[ah];clear ah;go_loopw [5] (λi wr=>∃ k:Nat,k<=l.length/\i = .int .i64 k/\Hid (Below w1.heap.size w1 wr)/\Hid (∀ j x,j<k->l[j]?=some x->¬ (x.set.name=q.data.toList/\x.set.type=t))) (λi _=>l.length - (intOf i).toNat)
 case atStart=>exact⟨0,jQ _,rfl,jq (vQ _ _),jq (λj g hj=>by omega)⟩
 case round=>
  obtain⟨k,hk,rfl,HB,HA⟩:=hrel;have an:=HB.out.size;have d1:wr.cell? ⟨w.heap.size,1,none⟩=some (.slice A l.length c):=(HB.out.cell (by dsimp only;omega)).trans c1;have e0:wr.cell? ⟨w.heap.size+1,0,none⟩=some (.string q):=(HB.out.cell (by dsimp only;omega)).trans q0;have e1:wr.cell? ⟨w.heap.size+1,1,none⟩=some (.int .i64 t):=(HB.out.cell (by dsimp only;omega)).trans q1;have aw:=jq (aq.out.trans (HB.out.mono (by omega)));have cZ:w.heap.size+1<wr.heap.size:=by omega
  by_cases aa:k<l.length
  ·obtain⟨x,ab⟩:∃ x,l[k]?=some x:=⟨_,aQ aa⟩;obtain⟨b,o,c',sn,dv,sv,hA,bJ,_,ay,cw,aW,aM,f0,f1,f2,f3,f4⟩:=eq (HD.out.keep aX aw.out) ab
   cases hA
   have HX:=jq ab;have aL:=jq ay;have cJ:Hid (¬ (x.set.name=q.data.toList/\x.set.type=t)->∀ j y,j<k+1->l[j]?=some y->¬ (y.set.name=q.data.toList/\y.set.type=t)):=jq (λh j y hj hy=>by
    by_cases e:j=k
    ·subst e;rw[ab] at hy;cases hy;exact h
    ·exact HA.out j y (by omega) hy)
   have bO:(0:Int)<=(k:Int):=by omega
   have bM:(k:Int)<(l.length:Int):=by omega
   have az:b<wr.heap.size:=by omega
   obtain⟨b1,Tp⟩:∃ b1,(sn.toList == q.toList)=b1:=⟨_,rfl⟩;obtain⟨b2,Tq⟩:∃ b2,(x.set.type == t)=b2:=⟨_,rfl⟩;have H1:Hid (b1=true↔x.set.name=q.data.toList):=jq (by rw[<-Tp,dQ,dQ,ay,beq_iff_eq]);have H2:Hid (b2=true↔x.set.type=t):=jq (by rw[<-Tq,beq_iff_eq]);clear ab ay aW aM f2 f3 f4
   cases b1 with
   | false=>
    have HN:=jq (cJ.out λh=>by have:=H1.out.2 h.1;cases this);go_wp2_with fail;go_quiet (fail);go_wp2_with fail;go_roundw
    case rel=>exact⟨k+1,by omega,by go_num,jq (below_drewN HB.out _),jq HN.out⟩
    case measure=>simp[intOf] <;> omega
   | true=>
    cases b2 with
    | false=>
     have HN:=jq (cJ.out λh=>by have:=H2.out.2 h.2;cases this);go_wp2_with fail;go_quiet (fail);go_wp2_with fail;go_roundw
     case rel=>exact⟨k+1,by omega,by go_num,jq (below_drewN HB.out _),jq HN.out⟩
     case measure=>simp[intOf] <;> omega
    | true=>
     have HF:Hid (r=k):=jq (by rw[<-HR.out];exact Rb HX.out ⟨H1.out.1 rfl,H2.out.1 rfl⟩ HA.out);go_wp2_with fail;go_quiet (fail);go_wp2_with fail;go_ret;exact⟨iv HF.out.symm,below_drewN aw.out _⟩
  ·have HF:Hid (r = -1):=jq (by rw[<-HR.out];exact Jr λj x hx=>HA.out j x (by have:=(cQ.1 hx).1;omega) hx);go_wp2_with fail;go_ret;exact⟨iv HF.out.symm,aw.out⟩
theorem Yl(a:ByteArray)(v:Value)(l:List Np.Signed)(w:World)(hd:SlR bh 5 w w.heap.size v l) :
 Calls prog 160 #[.agg #[.string a,v]] w λe w'=>e = .returned (.bool (Np.yes (Np.ApexH a.data.toList l)))/\Below w.heap.size w w':=by
 obtain⟨r,hr⟩:∃ r,Np.yes (Np.ApexH a.data.toList l)=r:=⟨_,rfl⟩;rw[hr];have HR:=jq hr;have HD:=jq hd;obtain⟨A,c,rfl,bw,bT⟩:=al hd;clear hr hd;have HW:Hid (∀ o,Below w.heap.size w (w.alloc o)):=jq (λo=>(vQ _ w).alloc (bQ _) _);go_enter func160,ntmps160;go_wp2_with fail;obtain⟨w1,ah⟩:∃ w1,w.alloc (.cells #[.string a,.slice A l.length c] 44)=w1:=⟨_,rfl⟩;have c0:w1.cell? ⟨w.heap.size,0,none⟩=some (.string a):=by rw[<-ah];simp[go_sem]
 have c1:w1.cell? ⟨w.heap.size,1,none⟩=some (.slice A l.length c):=by rw[<-ah];simp[go_sem]
 have bj:w1.heap.size=w.heap.size+1:=by rw[<-ah];simp
 have aq:Hid (Below w.heap.size w w1):=jq (by rw[<-ah];exact HW.out _);rw[ah];clear ah;refine (M8 a _ l a 4 _ (HD.out.later aX cj aq.out)).mono ?_;rintro e w2 ⟨rfl,ac⟩;have aJ:=ac.size;have aj:=jq (aq.out.trans (ac.mono (by omega)));replace c0:w2.cell? ⟨w.heap.size,0,none⟩=some (.string a):=(ac.cell (by dsimp only;omega)).trans c0;replace c1:w2.cell? ⟨w.heap.size,1,none⟩=some (.slice A l.length c):=(ac.cell (by dsimp only;omega)).trans c1;clear ac;obtain⟨i4,Fq⟩:∃ i,Np.atI l a.data.toList 4=i:=⟨_,rfl⟩;have H4:Hid (i4<0↔¬ Np.iM l a.data.toList 4):=jq (by rw[<-Fq];exact Jq _ _ _);rw[Fq];clear Fq;by_cases h4:i4<0
 ·have HX:Hid (r=false):=jq (by rw[<-HR.out];exact Np.aF λh=>H4.out.1 h4 h.start);go_wp2_with fail;go_ret;exact⟨ae HX.out.symm,aj.out⟩
 ·have PD:Hid (Np.iM l a.data.toList 4):=jq (Classical.not_not.1 λh=>h4 (H4.out.2 h));go_wp2_with fail;refine (M8 a _ l a 2 _ (HD.out.later aX cj aj.out)).mono ?_;rintro e w3 ⟨rfl,ak⟩;have el:=ak.size;have ar:=jq (aj.out.trans (ak.mono (by omega)));replace c0:w3.cell? ⟨w.heap.size,0,none⟩=some (.string a):=(ak.cell (by dsimp only;omega)).trans c0;replace c1:w3.cell? ⟨w.heap.size,1,none⟩=some (.slice A l.length c):=(ak.cell (by dsimp only;omega)).trans c1;clear ak;obtain⟨i2,tg⟩:∃ i,Np.atI l a.data.toList 2=i:=⟨_,rfl⟩;have H2:Hid (i2<0↔¬ Np.iM l a.data.toList 2):=jq (by rw[<-tg];exact Jq _ _ _);rw[tg];clear tg;by_cases h2:i2<0
  ·have HX:Hid (r=false):=jq (by rw[<-HR.out];exact Np.aF λh=>H2.out.1 h2 h.server);go_wp2_with fail;go_ret;exact⟨ae HX.out.symm,ar.out⟩
  ·have wI:Hid (Np.iM l a.data.toList 2):=jq (Classical.not_not.1 λh=>h2 (H2.out.2 h));go_wp2_with fail;go_loopw [3] (λi wr=>∃ k:Nat,k<=l.length/\i = .int .i64 k/\Hid (Below w3.heap.size w3 wr)/\Hid (∀ j x,j<k->l[j]?=some x->Np.iI x.set.type (x.set.name == a.data.toList)=true)) (λi _=>l.length - (intOf i).toNat)
   case atStart=>exact⟨0,jQ _,rfl,jq (vQ _ _),jq (λj g hj=>by omega)⟩
   case round=>
    obtain⟨k,hk,rfl,HB,HA⟩:=hrel;have an:=HB.out.size;have d0:wr.cell? ⟨w.heap.size,0,none⟩=some (.string a):=(HB.out.cell (by dsimp only;omega)).trans c0;have d1:wr.cell? ⟨w.heap.size,1,none⟩=some (.slice A l.length c):=(HB.out.cell (by dsimp only;omega)).trans c1;have aw:=jq (ar.out.trans (HB.out.mono (by omega)));have cZ:w.heap.size<wr.heap.size:=by omega
    by_cases aa:k<l.length
    ·obtain⟨x,ab⟩:∃ x,l[k]?=some x:=⟨_,aQ aa⟩;obtain⟨b,o,c',sn,dv,sv,hA,bJ,_,ay,cw,aW,aM,f0,f1,f2,f3,f4⟩:=eq (HD.out.keep aX aw.out) ab
     cases hA
     have bO:(0:Int)<=(k:Int):=by omega
     have bM:(k:Int)<(l.length:Int):=by omega
     have az:b<wr.heap.size:=by omega
     have heq:(sn.toList == a.toList)=(x.set.name == a.data.toList):=by rw[dQ,dQ,ay]
     have r9:Hid (Np.iI x.set.type (x.set.name == a.data.toList)=true->∀ j y,j<k+1->l[j]?=some y->Np.iI y.set.type (y.set.name == a.data.toList)=true):=jq (λh j y hj hy=>by
      by_cases e:j=k
      ·subst e;rw[ab] at hy;cases hy;exact h
      ·exact HA.out j y (by omega) hy)
     have Di:Hid (Np.iI x.set.type (x.set.name == a.data.toList)=false->r=false):=jq (λh=>by
      rw[<-HR.out];exact Np.aF λq=>by have:=q.fits x (gQ ab);rw[h] at this;cases this)
     generalize (x.set.name == a.data.toList)=bb at *;clear ab ay aW aM f2 f3 f4
     cases hf:Np.iI x.set.type bb with
     | true=>
      have HF:=jq (r9.out hf);have cC:∀ w,Calls prog 236 #[.int .i64 x.set.type,.bool bb] w λe w'=>e = .returned (.bool true)/\w=w':=λw=>by rw[<-hf];exact Nb _ _ _
      have HC:=jq cC;rw[<-heq] at cC;have bE:=jq cC;clear hf cC heq;go_wp2_with fail;go_quiet (first | (go_at_call 236;exact Calls.quiet_of_same (Calls.still_same (bE.out _))) | (go_at_call 236;exact Calls.quiet_of_same (Calls.still_same (HC.out _))));go_wp2_with fail;go_roundw
      case rel=>exact⟨k+1,by omega,by go_num,jq (below_drewN HB.out _),jq HF.out⟩
      case measure=>simp[intOf] <;> omega
     | false=>
      have HF:=jq (Di.out hf);have cC:∀ w,Calls prog 236 #[.int .i64 x.set.type,.bool bb] w λe w'=>e = .returned (.bool false)/\w=w':=λw=>by rw[<-hf];exact Nb _ _ _
      have HC:=jq cC;rw[<-heq] at cC;have bE:=jq cC;clear hf cC heq;go_wp2_with fail;go_quiet (first | (go_at_call 236;exact Calls.quiet_of_same (Calls.still_same (bE.out _))) | (go_at_call 236;exact Calls.quiet_of_same (Calls.still_same (HC.out _))));go_wp2_with fail;go_ret;exact⟨ae HF.out.symm,below_drewN aw.out _⟩
    ·go_wp2_with fail;go_ret;refine⟨ae ?_,aw.out⟩;rw[<-HR.out];refine (Np.bB ⟨PD.out,wI.out,λx hx=>?_⟩).symm;obtain⟨j,hj,rfl⟩:=nQ.1 hx;exact HA.out j _ (by omega) (aQ hj)
end
end Go.Proofs.YtfnopgdcaanaiaaGreatDoor
