/- No condition. -/
import Derived.Test.YtadhigmjilijcaaGreatDoorH06
import Derived.Test.YtadhigmjilijcaaGreatDoorH09
set_option linter.all false
set_option maxRecDepth 100000
set_option maxHeartbeats 8000000
namespace Go.Proofs.YtadhigmjilijcaaGreatDoor
open Go.Proofs.Tryz
section
open Go.RowKit
structure Np.ApexH(a:List UInt8)(l:List Np.Signed):Prop where
 start:Np.ig l a 4
 server:Np.ig l a 2
 fits:∀ x∈l,Np.jZ x.set.type (x.set.name == a)=true
theorem aiY(a:ByteArray)(ha:a.size<=140737488355328)(na:Np.ai a.data.toList=true)(v:Value)(l:List Np.Signed)(dJ:l.length<=20000)(hv:∀ x∈l,Np.ai x.set.name=true)(hs:Np.te l)(w:World)(hd:SlR az 5 w w.heap.size v l) :
 Calls prog 196 #[.agg #[.string a,v]] w (aCX w.heap.size w (.bool (Np.yes (Np.ApexH a.data.toList l)))):=by
 obtain⟨r,hr⟩:=aaK (Np.yes (Np.ApexH a.data.toList l));rw[hr];have HR:=jq hr;have HV:=jq hv;have HS:=jq hs;have HD:=jq hd;have NA:=jq na;obtain⟨A,c,rfl,aR,cP⟩:=ba hd;clear hr hv hs hd na;have HW:Hid (∀ o o',Below w.heap.size w ((w.alloc o).alloc o')):=jq (λo o'=>((vQ _ w).alloc (bQ _) _).alloc (by simp) _);go_enter func196,ntmps196;go_wp2_with fail;obtain⟨w1,ah⟩:=aaK ((w.alloc (.cells #[.string a,.slice A l.length c] 176)).alloc (.cells #[.int .i64 4,.int .i64 2] 3));have c0:w1.cell? ⟨w.heap.size,0,none⟩=some (.string a):=by rw[<-ah];simp[go_sem]
 have c1:w1.cell? ⟨w.heap.size,1,none⟩=some (.slice A l.length c):=by rw[<-ah];simp[go_sem]
 have c2:w1.cell? ⟨w.heap.size+1,0,none⟩=some (.int .i64 4):=by rw[<-ah];simp[go_sem]
 have c3:w1.cell? ⟨w.heap.size+1,1,none⟩=some (.int .i64 2):=by rw[<-ah];simp[go_sem]
 have eH:w1.heap.size=w.heap.size+2:=by rw[<-ah];simp
 have ay:Hid (Below w.heap.size w w1):=jq (by rw[<-ah];exact HW.out _ _);rw[ah];clear ah;go_loopw [11] (λi wr=>Hid (Below w1.heap.size w1 wr)/\(i = .int .i64 0\/(i = .int .i64 1/\Hid (Np.ig l a.data.toList 4))\/(i = .int .i64 2/\Hid (Np.ig l a.data.toList 4)/\Hid (Np.ig l a.data.toList 2)))) (λi _=>2 - (intOf i).toNat)
 case atStart=>exact⟨jq (vQ _ _),.inl rfl⟩
 case round=>
  obtain⟨HB,hi⟩:=hrel;have aB:=HB.out.size;obtain⟨bc,bf⟩:=eh HB.out;have d0:wr.cell? ⟨w.heap.size,0,none⟩=some (.string a):=by rw[bc _ _ (by omega)];exact c0
  have d1:wr.cell? ⟨w.heap.size,1,none⟩=some (.slice A l.length c):=by rw[bc _ _ (by omega)];exact c1
  have d2:wr.cell? ⟨w.heap.size+1,0,none⟩=some (.int .i64 4):=by rw[bc _ _ (by omega)];exact c2
  have d3:wr.cell? ⟨w.heap.size+1,1,none⟩=some (.int .i64 2):=by rw[bc _ _ (by omega)];exact c3
  clear bc bf;have aD:=aaZ ay HB.out;have Ia:=jq ((HD.out.keep ax aD.out).more aK (show w.heap.size<=wr.heap.size by omega));have gO:w.heap.size+1<wr.heap.size:=by omega
  have aKQ:w.heap.size<wr.heap.size:=by omega
  rcases hi with rfl | ⟨rfl,H4⟩ | ⟨rfl,H4,H2⟩
  ·go_wp2_with fail;refine (JN a _ l dJ HV.out HS.out a ha 4 NA.out _ Ia.out).mono ?_;rintro e w2 ⟨rfl,hb⟩;have am:=jq hb;have bL:=hb.size;clear hb
   cases hk:Np.yes (Np.ig l a.data.toList 4) with
   | true=>
    have HK:=jq hk;clear hk;go_wp2_with fail;go_roundw
    case rel=>exact⟨jq (HB.out.trans (am.out.mono HB.out.size)),.inr (.inl ⟨by go_num,jq (Np.kw.1 HK.out)⟩)⟩
    ·simp[intOf]<;>omega
   | false=>
    have HK:=jq hk;clear hk;go_wp2_with fail;go_ret;refine⟨aj ?_,aD.out.trans (am.out.abQ)⟩;rw[<-HR.out];refine (Np.eX λh=>?_).symm
    have:=Np.gY h.start
    rw[HK.out] at this
    cases this
  ·go_wp2_with fail;refine (JN a _ l dJ HV.out HS.out a ha 2 NA.out _ Ia.out).mono ?_;rintro e w2 ⟨rfl,hb⟩;have am:=jq hb;have bL:=hb.size;clear hb
   cases hk:Np.yes (Np.ig l a.data.toList 2) with
   | true=>
    have HK:=jq hk;clear hk;go_wp2_with fail;go_roundw
    case rel=>exact⟨jq (HB.out.trans (am.out.mono HB.out.size)),.inr (.inr ⟨by go_num,H4,jq (Np.kw.1 HK.out)⟩)⟩
    ·simp[intOf]<;>omega
   | false=>
    have HK:=jq hk;clear hk;go_wp2_with fail;go_ret;refine⟨aj ?_,aD.out.trans (am.out.abQ)⟩;rw[<-HR.out];refine (Np.eX λh=>?_).symm
    have:=Np.gY h.server
    rw[HK.out] at this
    cases this
  ·go_wp2_with fail;clear d2 d3 c0 c1 c2 c3;obtain⟨w5,rfl⟩:=aaX wr;go_loopw [32] (λi wx=>∃ k:Nat,k<=l.length/\i = .int .i64 k/\Hid (Below w5.heap.size w5 wx)/\Hid (∀ j x,j<k->l[j]?=some x->Np.jZ x.set.type (x.set.name == a.data.toList)=true)) (λi _=>l.length - (intOf i).toNat)
   case atStart=>exact⟨0,jQ _,rfl,jq (vQ _ _),jq (λj g hj=>by omega)⟩
   case round=>
    obtain⟨k,hk,rfl,HX,HA⟩:=hrel;by_cases ag:k<l.length
    ·have aF:=aQ ag;obtain⟨b,o,c',sn,dv,sv,hA,cX,_,aP,fK,aV,aZ,e0,e1,e2,e3,e4⟩:=dN (Ia.out.keep ax HX.out) aF
     cases hA
     generalize hx:l[k]=x at *;clear hx;obtain⟨Ad,cd,rfl,_,_⟩:=ba aV;obtain⟨As,cs,rfl,_,_⟩:=ba aZ;have pr:=HX.out.size;have g0:wr.cell? ⟨w.heap.size,0,none⟩=some (.string a):=by rw[HX.out.cell (by simpa using aKQ)];exact d0
     have eG:w.heap.size<wr.heap.size:=by omega
     have heq:(sn.toList == a.toList)=(x.set.name == a.data.toList):=by rw[dQ,dQ,aP]
     have Ie:Hid (Np.jZ x.set.type (x.set.name == a.data.toList)=true->∀ j y,j<k+1->l[j]?=some y->Np.jZ y.set.type (y.set.name == a.data.toList)=true):=jq (λh j y hj hy=>by
      by_cases e:j=k
      ·subst e;rw[aF] at hy;cases hy;exact h
      ·exact HA.out j y (by omega) hy)
     have Id:Hid (Np.jZ x.set.type (x.set.name == a.data.toList)=false->r=false):=jq (λh=>by
      rw[<-HR.out];exact Np.eX λq=>by have:=q.fits x (gQ aF);rw[h] at this;cases this)
     have cu:Hid (∀ o,Below w5.heap.size w5 (wr.alloc o)):=jq (λo=>HX.out.alloc HX.out.size _);generalize (x.set.name == a.data.toList)=bb at *;clear aF aP aV aZ
     cases hf:Np.jZ x.set.type bb with
     | true=>
      have HF:=jq hf;go_wp2_with (go_at_call 253;refine (QJ _ _ _).mono ?_;rintro e w' ⟨rfl,rfl⟩);go_roundw
      case rel=>exact⟨k+1,by omega,by go_num,jq (cu.out _),jq (Ie.out HF.out)⟩
      ·simp[intOf]<;>omega
     | false=>
      have HF:=jq hf;go_wp2_with (go_at_call 253;refine (QJ _ _ _).mono ?_;rintro e w' ⟨rfl,rfl⟩);go_ret;exact⟨aj (Id.out HF.out).symm,aD.out.trans ((cu.out _).abQ)⟩
    ·go_wp2_with fail;go_ret;refine⟨aj ?_,aD.out.trans (HX.out.abQ)⟩;rw[<-HR.out];refine (Np.gY ⟨H4.out,H2.out,λx hx=>?_⟩).symm;obtain⟨j,hj,rfl⟩:=nQ.1 hx;exact HA.out j _ (by omega) (aQ hj)
end
section
open Go.RowKit Go.Sort Go.Shelf
section
variable {α:Type} [Inhabited α]
end
section
variable {ops:Array Oper} {rest:List Oper} {o:Oper} {a:Act} {Q:Exit->Act->World->Prop}
end
instance:Inhabited Np.Span:=⟨⟨0,0⟩⟩

structure SpBox(W:World)(b:Nat)(f u:Int):Prop where
 c0:W.cell? ⟨b,0,none⟩=some (.int .i64 f)
 c1:W.cell? ⟨b,1,none⟩=some (.int .i64 u)
 f0:W.frozen? ⟨b,0,none⟩=false
 f1:W.frozen? ⟨b,1,none⟩=false
 lt:b<W.heap.size
theorem SpBox.keep{W W':World}{b:Nat}{f u:Int}(h:SpBox W b f u){B:Nat}(hb:Below B W W')(hB:b<B):SpBox W' b f u:=
 ⟨(hb.cell hB).trans h.c0,(hb.cell hB).trans h.c1,(hb.frozen hB).trans h.f0,(hb.frozen hB).trans h.f1,lqQ h.lt hb.size⟩
structure SpAt(W:World)(b j:Nat)(f u:Int):Prop where
 c0:W.cell? ⟨b,j,none⟩=some (.int .i64 f)
 c1:W.cell? ⟨b,j+1,none⟩=some (.int .i64 u)
theorem SpAt.keep{W W':World}{b j:Nat}{f u:Int}(h:SpAt W b j f u){B:Nat}(hb:Below B W W')(hB:b<B):SpAt W' b j f u:=⟨(hb.cell hB).trans h.c0,(hb.cell hB).trans h.c1⟩
end
section
open Go.RowKit Go.MapKept Go.Shelf
section
variable {ops:Array Oper} {rest:List Oper} {o:Oper} {a:Act} {Q:Exit->Act->World->Prop}
end
section
variable {ops:Array Oper} {rest:List Oper} {o:Oper} {a:Act} {Q:Exit->Act->World->Prop}
end
end
section
open Go.RowKit
theorem Uq(t:Int)(b:Bool)(w:World) :
 Calls prog 134 #[.int .i64 t,.bool b] w (aCY w (.bool (Np.jZ t b))):=by
 by_cases h3:t=3
 ·subst h3
  cases b
  all_goals
   go_enter func134,ntmps134;go_wp2_with fail;go_ret;exact⟨rfl,rfl⟩
 ·by_cases h6:t=6
  ·subst h6
   cases b
   all_goals
    go_enter func134,ntmps134;go_wp2_with fail;go_ret;exact⟨rfl,rfl⟩
  ·by_cases h4:t=4
   ·subst h4
    cases b
    all_goals
     go_enter func134,ntmps134;go_wp2_with fail;go_ret;exact⟨rfl,rfl⟩
   ·by_cases h7:t=7
    ·subst h7
     cases b
     all_goals
      go_enter func134,ntmps134;go_wp2_with fail;go_ret;exact⟨rfl,rfl⟩
    ·have HF:Hid (Np.jZ t b=true):=jq (by unfold Np.jZ;rw[Qc (by omega),Qc (by omega)]);have g3:(t != 3)=true:=by simpa using h3
     have g6:(t != 6)=true:=by simpa using h6
     have g4:(t != 4)=true:=by simpa using h4
     have g7:(t != 7)=true:=by simpa using h7
     rw[HF.out];clear h3 h6 h4 h7
     cases b
     all_goals
      go_enter func134,ntmps134;go_wp2_with fail;go_ret;exact⟨rfl,rfl⟩
def Np.atI(l:List Np.Signed)(n:List UInt8)(t:Int):Int:=match l.findIdx? λx=>(x.set.name == n)&&decide (x.set.type=t) with | none=>-1 | some i=>i
theorem PV{l:List Np.Signed}{n:List UInt8}{t:Int}(h:∀ (j:Nat) (x:Np.Signed),l[j]?=some x->¬ (x.set.name=n/\x.set.type=t)):Np.atI l n t = -1:=by
 unfold Np.atI
 have:l.findIdx? (λx=>(x.set.name == n)&&decide (x.set.type=t))=none:=by
  rw[List.findIdx?_eq_none_iff];intro x hx;obtain⟨j,hj,rfl⟩:=nQ.1 hx
  have:=h j _ (aQ hj)
  rw[Bool.and_eq_false_iff];by_cases e:l[j].set.name=n
  ·right;simpa using λe2=>this ⟨e,e2⟩
  ·left;simpa using e
 rw[this]
theorem ajY{l:List Np.Signed}{n:List UInt8}{t:Int}{k:Nat}{x:Np.Signed}(hx:l[k]?=some x)(he:x.set.name=n/\x.set.type=t)(h:∀ (j:Nat) (y:Np.Signed),j<k->l[j]?=some y->¬ (y.set.name=n/\y.set.type=t)):Np.atI l n t=k:=by
 unfold Np.atI;obtain⟨hk,rfl⟩:=cQ.1 hx
 have:l.findIdx? (λx=>(x.set.name == n)&&decide (x.set.type=t))=some k:=by
  rw[List.findIdx?_eq_some_iff_getElem];refine⟨hk,by simp[he.1,he.2],λj hj=>?_⟩
  have:=h j _ hj (aQ (by omega))
  simpa using this
 rw[this]
theorem PU(l:List Np.Signed)(n:List UInt8)(t:Int):(Np.atI l n t<0)↔¬ Np.ig l n t:=by
 by_cases h:Np.ig l n t
 ·obtain⟨x,hx,h1,h2⟩:=h;refine⟨λag=>?_,λhn=>absurd ⟨x,hx,h1,h2⟩ hn⟩;unfold Np.atI at ag
  cases hf:l.findIdx? (λx=>(x.set.name == n)&&decide (x.set.type=t)) with
  | none=>
   rw[List.findIdx?_eq_none_iff] at hf
   have:=hf x hx
   simp[h1,h2] at this
  | some i=>rw[hf] at ag;dsimp only at ag;omega
 ·refine⟨λ_=>h,λ_=>?_⟩;rw[PV (λj x hx he=>h ⟨x,gQ hx,he⟩)];decide
theorem Um(a:ByteArray)(v:Value)(l:List Np.Signed)(q:ByteArray)(t:Int)(w:World)(hd:SlR az 5 w w.heap.size v l) :
 Calls prog 133 #[.agg #[.string a,v],.agg #[.string q,.int .i64 t]] w (aCX w.heap.size w (.int .i64 (Np.atI l q.data.toList t))):=by
 obtain⟨r,hr⟩:=aaK (Np.atI l q.data.toList t);rw[hr];have HR:=jq hr;have HD:=jq hd;obtain⟨A,c,rfl,aR,cP⟩:=ba hd;clear hr hd;have HW:Hid (∀ o o',Below w.heap.size w ((w.alloc o).alloc o')):=jq (λo o'=>((vQ _ w).alloc (bQ _) _).alloc (by simp) _);go_enter func133,ntmps133;go_wp2_with fail;obtain⟨w1,ah⟩:=aaK ((w.alloc (.cells #[.string a,.slice A l.length c] 66)).alloc (.cells #[.string q,.int .i64 t] 27));have c1:w1.cell? ⟨w.heap.size,1,none⟩=some (.slice A l.length c):=by rw[<-ah];simp[go_sem]
 have q0:w1.cell? ⟨w.heap.size+1,0,none⟩=some (.string q):=by rw[<-ah];simp[go_sem]
 have q1:w1.cell? ⟨w.heap.size+1,1,none⟩=some (.int .i64 t):=by rw[<-ah];simp[go_sem]
 have bG:w1.heap.size=w.heap.size+2:=by rw[<-ah];simp
 have ay:Hid (Below w.heap.size w w1):=jq (by rw[<-ah];exact HW.out _ _);rw[ah];clear ah;go_loopw [5] (λi wr=>∃ k:Nat,k<=l.length/\i = .int .i64 k/\Hid (Below w1.heap.size w1 wr)/\Hid (∀ j x,j<k->l[j]?=some x->¬ (x.set.name=q.data.toList/\x.set.type=t))) (λi _=>l.length - (intOf i).toNat)
 case atStart=>exact⟨0,jQ _,rfl,jq (vQ _ _),jq (λj g hj=>by omega)⟩
 case round=>
  obtain⟨k,hk,rfl,HB,HA⟩:=hrel;have aB:=HB.out.size;have d1:wr.cell? ⟨w.heap.size,1,none⟩=some (.slice A l.length c):=aaQ HB.out c1;have e0:wr.cell? ⟨w.heap.size+1,0,none⟩=some (.string q):=aaQ HB.out q0;have e1:wr.cell? ⟨w.heap.size+1,1,none⟩=some (.int .i64 t):=aaQ HB.out q1;have aD:=aaZ ay HB.out;have gO:w.heap.size+1<wr.heap.size:=by omega
  by_cases ag:k<l.length
  ·obtain⟨x,aF⟩:∃ x,l[k]?=some x:=⟨_,aQ ag⟩;obtain⟨b,o,c',sn,dv,sv,hA,cX,_,aP,fK,aV,aZ,f0,f1,f2,f3,f4⟩:=dN (HD.out.keep ax aD.out) aF
   cases hA
   have HX:=jq aF;have bU:=jq aP;have ey:Hid (¬ (x.set.name=q.data.toList/\x.set.type=t)->∀ j y,j<k+1->l[j]?=some y->¬ (y.set.name=q.data.toList/\y.set.type=t)):=jq (λh j y hj hy=>by
    by_cases e:j=k
    ·subst e;rw[aF] at hy;cases hy;exact h
    ·exact HA.out j y (by omega) hy)
   have df:=kNN k;have dg:(k:Int)<(l.length:Int):=by omega
   have av:b<wr.heap.size:=by omega
   obtain⟨b1,aJQ⟩:=aaK (sn.toList == q.toList);obtain⟨b2,aJZ⟩:=aaK (x.set.type == t);have H1:Hid (b1=true↔x.set.name=q.data.toList):=jq (by rw[<-aJQ,dQ,dQ,aP,beq_iff_eq]);have H2:Hid (b2=true↔x.set.type=t):=jq (by rw[<-aJZ,beq_iff_eq]);clear aF aP aV aZ f2 f3 f4
   cases b1 with
   | false=>
    have HN:=jq (ey.out λh=>by have:=H1.out.2 h.1;cases this);go_wp2_with fail;go_quiet (fail);go_wp2_with fail;go_roundw
    case rel=>exact⟨k+1,by omega,by go_num,jq (below_drewN HB.out _),jq HN.out⟩
    ·simp[intOf]<;>omega
   | true=>
    cases b2 with
    | false=>
     have HN:=jq (ey.out λh=>by have:=H2.out.2 h.2;cases this);go_wp2_with fail;go_quiet (fail);go_wp2_with fail;go_roundw
     case rel=>exact⟨k+1,by omega,by go_num,jq (below_drewN HB.out _),jq HN.out⟩
     ·simp[intOf]<;>omega
    | true=>
     have HF:Hid (r=k):=jq (by rw[<-HR.out];exact ajY HX.out ⟨H1.out.1 rfl,H2.out.1 rfl⟩ HA.out);go_wp2_with fail;go_quiet (fail);go_wp2_with fail;go_ret;exact⟨jM HF.out.symm,below_drewN aD.out _⟩
  ·have HF:Hid (r = -1):=jq (by rw[<-HR.out];exact PV λj x hx=>HA.out j x (by have:=(cQ.1 hx).1;omega) hx);go_wp2_with fail;go_ret;exact⟨jM HF.out.symm,aD.out⟩
theorem bqZ(a:ByteArray)(v:Value)(l:List Np.Signed)(w:World)(hd:SlR az 5 w w.heap.size v l) :
 Calls prog 65 #[.agg #[.string a,v]] w (aCX w.heap.size w (.bool (Np.yes (Np.ApexH a.data.toList l)))):=by
 obtain⟨r,hr⟩:=aaK (Np.yes (Np.ApexH a.data.toList l));rw[hr];have HR:=jq hr;have HD:=jq hd;obtain⟨A,c,rfl,aR,cP⟩:=ba hd;clear hr hd;have HW:=blW w;go_enter func65,ntmps65;go_wp2_with fail;obtain⟨w1,ah⟩:=aaK (w.alloc (.cells #[.string a,.slice A l.length c] 66));have c0:w1.cell? ⟨w.heap.size,0,none⟩=some (.string a):=by rw[<-ah];simp[go_sem]
 have c1:w1.cell? ⟨w.heap.size,1,none⟩=some (.slice A l.length c):=by rw[<-ah];simp[go_sem]
 have bG:w1.heap.size=w.heap.size+1:=by rw[<-ah];simp
 have ay:Hid (Below w.heap.size w w1):=jq (by rw[<-ah];exact HW.out _);rw[ah];clear ah;refine (Um a _ l a 4 _ (HD.out.later ax aK ay.out)).mono ?_;rintro e w2 ⟨rfl,ae⟩;have bL:=ae.size;have am:=aaZ ay ae;replace c0:=aaQ ae c0;replace c1:=aaQ ae c1;clear ae;obtain⟨i4,Ky⟩:=aaK (Np.atI l a.data.toList 4);have H4:Hid (i4<0↔¬ Np.ig l a.data.toList 4):=jq (by rw[<-Ky];exact PU _ _ _);rw[Ky];clear Ky;by_cases h4:i4<0
 ·have HX:Hid (r=false):=jq (by rw[<-HR.out];exact Np.eX λh=>H4.out.1 h4 h.start);have d4:decide (i4<0)=true:=uQ h4;go_wp2_with fail;go_ret;exact⟨aj HX.out.symm,am.out⟩
 ·have Bn:Hid (Np.ig l a.data.toList 4):=jq (Classical.not_not.1 λh=>h4 (H4.out.2 h));have d4:decide (i4<0)=false:=tQ h4;go_wp2_with fail;refine (Um a _ l a 2 _ (HD.out.later ax aK am.out)).mono ?_;rintro e w3 ⟨rfl,aq⟩;have mh:=aq.size;have aw:=aaZ am aq;replace c0:=aaQ aq c0;replace c1:=aaQ aq c1;clear aq;obtain⟨i2,Kx⟩:=aaK (Np.atI l a.data.toList 2);have H2:Hid (i2<0↔¬ Np.ig l a.data.toList 2):=jq (by rw[<-Kx];exact PU _ _ _);rw[Kx];clear Kx;by_cases h2:i2<0
  ·have HX:Hid (r=false):=jq (by rw[<-HR.out];exact Np.eX λh=>H2.out.1 h2 h.server);have d2:decide (i2<0)=true:=uQ h2;go_wp2_with fail;go_ret;exact⟨aj HX.out.symm,aw.out⟩
  ·have gL:Hid (Np.ig l a.data.toList 2):=jq (Classical.not_not.1 λh=>h2 (H2.out.2 h));have d2:decide (i2<0)=false:=tQ h2;go_wp2_with fail;go_loopw [3] (λi wr=>∃ k:Nat,k<=l.length/\i = .int .i64 k/\Hid (Below w3.heap.size w3 wr)/\Hid (∀ j x,j<k->l[j]?=some x->Np.jZ x.set.type (x.set.name == a.data.toList)=true)) (λi _=>l.length - (intOf i).toNat)
   case atStart=>exact⟨0,jQ _,rfl,jq (vQ _ _),jq (λj g hj=>by omega)⟩
   case round=>
    obtain⟨k,hk,rfl,HB,HA⟩:=hrel;have aB:=HB.out.size;have d0:wr.cell? ⟨w.heap.size,0,none⟩=some (.string a):=aaQ HB.out c0;have d1:wr.cell? ⟨w.heap.size,1,none⟩=some (.slice A l.length c):=aaQ HB.out c1;have aD:=aaZ aw HB.out;have gO:w.heap.size<wr.heap.size:=by omega
    by_cases ag:k<l.length
    ·obtain⟨x,aF⟩:∃ x,l[k]?=some x:=⟨_,aQ ag⟩;obtain⟨b,o,c',sn,dv,sv,hA,cX,_,aP,fK,aV,aZ,f0,f1,f2,f3,f4⟩:=dN (HD.out.keep ax aD.out) aF
     cases hA
     have df:=kNN k;have dg:(k:Int)<(l.length:Int):=by omega
     have av:b<wr.heap.size:=by omega
     have heq:(sn.toList == a.toList)=(x.set.name == a.data.toList):=by rw[dQ,dQ,aP]
     have Ie:Hid (Np.jZ x.set.type (x.set.name == a.data.toList)=true->∀ j y,j<k+1->l[j]?=some y->Np.jZ y.set.type (y.set.name == a.data.toList)=true):=jq (λh j y hj hy=>by
      by_cases e:j=k
      ·subst e;rw[aF] at hy;cases hy;exact h
      ·exact HA.out j y (by omega) hy)
     have Id:Hid (Np.jZ x.set.type (x.set.name == a.data.toList)=false->r=false):=jq (λh=>by
      rw[<-HR.out];exact Np.eX λq=>by have:=q.fits x (gQ aF);rw[h] at this;cases this)
     generalize (x.set.name == a.data.toList)=bb at *;clear aF aP aV aZ f2 f3 f4
     cases hf:Np.jZ x.set.type bb with
     | true=>
      have HF:=jq (Ie.out hf);have bw:∀ w,Calls prog 134 #[.int .i64 x.set.type,.bool bb] w (aCY w (.bool true)):=λw=>by rw[<-hf];exact Uq _ _ _
      have HC:=jq bw;rw[<-heq] at bw;have dH:=jq bw;clear hf bw heq;go_wp2_with fail;go_quiet (first | (go_at_call 134;exact Calls.quiet_of_same (Calls.still_same (dH.out _))) | (go_at_call 134;exact Calls.quiet_of_same (Calls.still_same (HC.out _))));go_wp2_with fail;go_roundw
      case rel=>exact⟨k+1,by omega,by go_num,jq (below_drewN HB.out _),jq HF.out⟩
      ·simp[intOf]<;>omega
     | false=>
      have HF:=jq (Id.out hf);have bw:∀ w,Calls prog 134 #[.int .i64 x.set.type,.bool bb] w (aCY w (.bool false)):=λw=>by rw[<-hf];exact Uq _ _ _
      have HC:=jq bw;rw[<-heq] at bw;have dH:=jq bw;clear hf bw heq;go_wp2_with fail;go_quiet (first | (go_at_call 134;exact Calls.quiet_of_same (Calls.still_same (dH.out _))) | (go_at_call 134;exact Calls.quiet_of_same (Calls.still_same (HC.out _))));go_wp2_with fail;go_ret;exact⟨aj HF.out.symm,below_drewN aD.out _⟩
    ·go_wp2_with fail;go_ret;refine⟨aj ?_,aD.out⟩;rw[<-HR.out];refine (Np.gY ⟨Bn.out,gL.out,λx hx=>?_⟩).symm;obtain⟨j,hj,rfl⟩:=nQ.1 hx;exact HA.out j _ (by omega) (aQ hj)
theorem bfQ(a b:ByteArray)(n1 n2 n3 n4 m1 m2 m3 m4:Int)(s1 s2:Int)(w:World):(binOp .neq 56 (.agg #[.string a,.int .i64 n1,.int .i64 n2,.int .i64 n3,.int .i64 n4,.int .u64 s1]) (.agg #[.string b,.int .i64 m1,.int .i64 m2,.int .i64 m3,.int .i64 m4,.int .u64 s2])).run prog w = .ok (.bool (!(a.toList == b.toList&&(n1 == m1&&(n2 == m2&&(n3 == m3&&(n4 == m4&&s1 == s2))))))) w:=by
 have u3:=underlying3;have a3:=isAgg3;have z3:=sizeOf3;have u9:=underlying9;have a9:=isAgg9;have z9:=sizeOf9;have u8:=underlying54;have a8:=isAgg54;have z8:=sizeOf54;have hS:prog.underlying 56=some (.struct (prog.fieldsOf 56)):=by kernel_rfl
 have hp:prog.stoodInHeld 56=false:=by kernel_rfl
 rw[run_neq_struct,show (10000:Nat)=9999+1 from rfl,run_equalIn_agg w 9999 56 _ _ hS hp];simp only[Program.fieldsOf,underlying56];go_simp;by_cases h0:a.toList=b.toList<;>by_cases h1:n1=m1<;>by_cases h2:n2=m2<;>by_cases h3:n3=m3<;>by_cases h4:n4=m4<;>by_cases h5:s1=s2<;>simp[h0,h1,h2,h3,h4,h5]
theorem byJ{x y:Np.Sig}{a b:ByteArray}(ha:a.data.toList=x.zone)(hb:b.data.toList=y.zone):(!(a.toList == b.toList&&(x.key == y.key&&(x.alg == y.alg&&(x.frm == y.frm&&(x.til == y.til&&x.sum == y.sum))))))=decide (x≠y):=by
 rw[dQ,dQ,ha,hb];obtain⟨z,k,g,f,t,m⟩:=x;obtain⟨z',k',g',f',t',m'⟩:=y;simp only[ne_eq,Np.Sig.mk.injEq];by_cases h0:z=z'<;>by_cases h1:k=k'<;>by_cases h2:g=g'<;>by_cases h3:f=f'<;>by_cases h4:t=t'<;>by_cases h5:m=m'<;>simp[h0,h1,h2,h3,h4,h5]
theorem bxQ(s1 s2:ByteArray)(t1 l1 t2 l2:Int)(v1 v2 u1 u2:Value)(d1 d2:List Np.Datum)(g1 g2:List Np.Sig)(w:World)(mK:SlR cm 3 w w.heap.size v1 d1)(iN:SlR cm 3 w w.heap.size v2 d2)(dK:SlR en 6 w w.heap.size u1 g1)(fo:SlR en 6 w w.heap.size u2 g2) :
 Calls prog 25 #[.agg #[.string s1,.int .i64 t1,.int .i64 l1,v1,u1],.agg #[.string s2,.int .i64 t2,.int .i64 l2,v2,u2]] w
  λe w'=>e = .returned (.bool (decide ((s1=s2/\t1=t2/\l1=l2/\d1=d2)/\g1=g2)))/\Below w.heap.size w w':=by
 obtain⟨r,hr⟩:=aaK (decide ((s1=s2/\t1=t2/\l1=l2/\d1=d2)/\g1=g2));rw[hr];have HR:=jq hr;have Ba:=jq mK;have jS:=jq iN;have pS:=jq dK;have lD:=jq fo;obtain⟨A1,c1,rfl,_,_⟩:=ba mK;obtain⟨A2,c2,rfl,_,_⟩:=ba iN;obtain⟨A3,c3,rfl,_,_⟩:=ba dK;obtain⟨A4,c4,rfl,_,_⟩:=ba fo;clear mK iN dK fo hr;obtain⟨d1n,h1⟩:=aaK d1.length;obtain⟨d2n,h2⟩:=aaK d2.length;obtain⟨n,h3⟩:=aaK g1.length;obtain⟨m,h4⟩:=aaK g2.length;rw[h1,h2,h3,h4];rw[h1] at Ba;rw[h2] at jS;rw[h3] at pS;rw[h4] at lD;have H3:=jq h3;have H4:=jq h4;clear h1 h2 h3 h4;obtain⟨X,hX⟩:=aaK w.heap.size;obtain⟨Y,hY⟩:=aaK (X+1);obtain⟨W1,dD⟩:=aaK ((w.alloc (.cells #[.string s1,.int .i64 t1,.int .i64 l1,.slice A1 d1n c1,.slice A3 n c3] 44)).alloc (.cells #[.string s2,.int .i64 t2,.int .i64 l2,.slice A2 d2n c2,.slice A4 m c4] 44));have aT:Below w.heap.size w W1:=by rw[<-dD];exact (blAl).alloc (by simp) _
 have Gu:W1.heap.size=w.heap.size+2:=by rw[<-dD];simp
 obtain⟨k0,k1,k2,k3,k4⟩:=cRow5 W1 X (.string s1) (.int .i64 t1) (.int .i64 l1) (.slice A1 d1n c1) (.slice A3 n c3) (by rw[<-dD,<-hX];simp[go_sem]);obtain⟨j0,j1,j2,j3,j4⟩:=cRow5 W1 Y (.string s2) (.int .i64 t2) (.int .i64 l2) (.slice A2 d2n c2) (.slice A4 m c4) (by rw[<-dD,<-hY,<-hX];simp[go_sem]);rw[hX] at aT Gu Ba jS pS lD |-;have bN:=jq aT;clear aT;go_enter func25,ntmps25;go_wp2_with fail;refine (bwY s1 s2 t1 l1 t2 l2 _ _ d1 d2 _ ((Ba.out.keep bM bN.out).more bY (by omega)) ((jS.out.keep bM bN.out).more bY (by omega))).mono ?_;rintro e w2 ⟨rfl,ae⟩;have bL:=ae.size;replace k0:=aaQ ae k0;replace k1:=aaQ ae k1;replace k2:=aaQ ae k2;replace k3:=aaQ ae k3;replace k4:=aaQ ae k4;replace j0:=aaQ ae j0;replace j1:=aaQ ae j1;replace j2:=aaQ ae j2;replace j3:=aaQ ae j3;replace j4:=aaQ ae j4;have am:=aaZ bN ae;clear ae dD hX;obtain⟨q,hq⟩:=aaK (decide (s1=s2/\t1=t2/\l1=l2/\d1=d2));rw[hq];have oU:=jq hq;clear hq
 cases q with
 | false=>
  have HX:Hid (r=false):=jq (by rw[<-HR.out];exact tQ λh=>(of_decide_eq_false oU.out) h.1);go_wp2_with fail;go_ret;exact⟨aj HX.out.symm,am.out⟩
 | true=>
  by_cases fJ:n=m
  ·subst fJ;go_wp2_with fail;go_loopw [5] (λi wr=>∃ (k:Nat),k<=n/\i = .int .i64 k/\Hid (Below w2.heap.size w2 wr)/\Hid (g1.take k=g2.take k)) (λi _=>n - (intOf i).toNat)
   case atStart=>exact⟨0,jQ _,rfl,jq (vQ _ _),jq rfl⟩
   case round=>
    obtain⟨k,hk,rfl,eY,HT⟩:=hrel;have aB:=eY.out.size;have HB:=aaZ am eY.out;have a4:=aaQ eY.out k4;have b4:=aaQ eY.out j4;by_cases ag:k<n
    ·obtain⟨x,hx⟩:∃ x,g1[k]?=some x:=⟨_,aQ (by rw[H3.out];exact ag)⟩;obtain⟨y,hy⟩:∃ y,g2[k]?=some y:=⟨_,aQ (by rw[H4.out];exact ag)⟩;obtain⟨b,o,c,sx,hv,cX,xU,_,f0,f1,f2,f3,f4,f5⟩:=ua (pS.out.keep dG HB.out) hx;obtain⟨b',o',c',sy,hv',FH,nL,_,e0,e1,e2,e3,e4,e5⟩:=ua (lD.out.keep dG HB.out) hy;simp only[Value.slice.injEq] at hv hv';obtain⟨rfl,_,_⟩:=hv;obtain⟨rfl,_,_⟩:=hv';have I5:Hid (x=y->g1.take (k+1)=g2.take (k+1)):=jq (λe=>by
      obtain⟨q1,q2⟩:=cQ.1 hx;obtain⟨q3,q4⟩:=cQ.1 hy;rw[fQ q1,fQ q3,q2,q4,HT.out,e])
     have lE:Hid (x≠y->r=false):=jq (λe=>by
      rw[<-HR.out];refine tQ λh=>e ?_;have h2:=h.2;subst h2;rw[hx] at hy;simpa using hy)
     have df:(0:Int)<=(k:Int):=by omega
     have dg:(k:Int)<(n:Int):=by omega
     have heq:=bfQ sx sy x.key x.alg x.frm x.til y.key y.alg y.frm y.til x.sum y.sum;rw[byJ xU nL] at heq;clear hx hy xU nL;by_cases dY:x=y
     ·have HX:=jq (I5.out dY);have qT:decide (x≠y)=false:=by simpa using dY
      rw[qT] at heq;clear qT dY;go_wp2_with fail;go_quiet (fail);go_wp2_with fail;go_roundw
      case rel=>exact⟨k+1,by omega,by go_num,jq (below_drewN eY.out _),HX⟩
      ·simp[intOf]<;>omega
     ·have HX:=jq (lE.out dY);have qT:decide (x≠y)=true:=uQ dY;rw[qT] at heq;clear qT dY;go_wp2_with fail;go_quiet (fail);go_wp2_with fail;go_ret;exact⟨aj HX.out.symm,below_drewN HB.out _⟩
    ·have HX:Hid (r=true):=jq (by
      rw[<-HR.out];refine uQ ⟨of_decide_eq_true oU.out,?_⟩
      have:=HT.out
      rwa [kQ (by rw[H3.out];omega),kQ (by rw[H4.out];omega)] at this)
     go_wp2_with fail;go_ret;exact⟨aj HX.out.symm,HB.out⟩
  ·have hne:(n:Int)≠(m:Int):=by omega
   have hd:decide ((n:Int)=(m:Int))=false:=tQ hne;have hb:((n:Int) == (m:Int))=false:=by simpa using hne
   have HX:Hid (r=false):=jq (by rw[<-HR.out];exact tQ λh=>fJ (by rw[<-H3.out,<-H4.out,h.2]));go_wp2_with fail;go_ret;exact⟨aj HX.out.symm,am.out⟩
end
section
open Go.RowKit Go.Sort Go.Shelf
def Np.VL(l:List Np.Span):Prop:=∀ s∈l,s.frm<s.til
end
section
open Go.RowKit

end
end Go.Proofs.YtadhigmjilijcaaGreatDoor
