/- Parts of the proof. No condition. -/
import Derived.Test.YtfnopgdcaanaiaaGreatDoorT06
import Derived.Test.YtfnopgdcaanaiaaGreatDoorT07
import Derived.Test.YtfnopgdcaanaiaaGreatDoorT08
set_option linter.all false
set_option maxRecDepth 100000
set_option maxHeartbeats 8000000
namespace Go.Proofs.YtfnopgdcaanaiaaGreatDoor
open Go.Proofs.Tryz
section
open Go.RowKit
theorem xz{w:World}{B:Nat}{v:Value}{xs:List Np.Sig}(h:SlR cr 6 w B v xs){k:Nat}{x:Np.Sig}(hx:xs[k]?=some x):∃ (b o c:Nat) (s:ByteArray),v = .slice (some ⟨b,o,none⟩) xs.length c/\b<B/\s.data.toList=x.zone/\s.size<=140737488355328/\
 w.cell? ⟨b,o+k * 6,none⟩=some (.string s)/\w.cell? ⟨b,o+k * 6+1,none⟩=some (.int .i64 x.key)/\w.cell? ⟨b,o+k * 6+2,none⟩=some (.int .i64 x.alg)/\w.cell? ⟨b,o+k * 6+3,none⟩=some (.int .i64 x.frm)/\w.cell? ⟨b,o+k * 6+4,none⟩=some (.int .i64 x.til)/\w.cell? ⟨b,o+k * 6+5,none⟩=some (.int .u64 x.sum):=by
 obtain⟨A,c,rfl,hc,_,he⟩:=h;obtain⟨b,o,e,rfl,hb,_,hce,s,h1,h2,rfl⟩:=he k x hx;exact⟨b,o,c,s,rfl,hb,h1,h2,by have:=hce 0 _ rfl;simpa using this,hce 1 _ rfl,hce 2 _ rfl,hce 3 _ rfl,hce 4 _ rfl,hce 5 _ rfl⟩
theorem Ip(t:Int)(b:Bool)(w:World) :
 Calls prog 271 #[.int .i64 t,.bool b] w (agZ w (.bool (Np.lD t b))):=by
 unfold Np.lD;go_enter func271,ntmps271;go_wp2_with fail
 all_goals
  go_ret;refine⟨aj ?_,rfl⟩;simp_all
theorem Ue{a:List UInt8}{l:List Np.Sig}{k:Nat}{x:Np.Sig}(hx:l[k]?=some x)(h:¬ Np.SigOk a l k x):Np.yes (Np.fF a l)=false:=Np.bP λhf=>h (hf.2 k x hx)
theorem Xa{a:List UInt8}{l:List Np.Sig}{k:Nat}{x:Np.Sig}(hx:l[k]?=some x)(h:∀ j g,j<k->l[j]?=some g->Np.SigOk a l j g)(hk:Np.SigOk a l k x):∀ j g,j<k+1->l[j]?=some g->Np.SigOk a l j g:=λj g hj hg=>by
 by_cases e:j=k
 ·subst e;rw[hx] at hg;cases hg;exact hk
 ·exact h j g (by omega) hg
theorem Ud(a:ByteArray)(v:Value)(l:List Np.Sig)(w:World)(h:SlR cr 6 w w.heap.size v l) :
 Calls prog 272 #[v,.string a] w (agQ w.heap.size w (.bool (Np.yes (Np.fF a.data.toList l)))):=by
 obtain⟨r,hr⟩:=abY (Np.yes (Np.fF a.data.toList l));rw[hr];have HR:=jq hr;have H:=jq h;obtain⟨A,c,rfl,aT,cu⟩:=ar h;clear h hr;by_cases h6:l.length<=6
 ·have H6:=jq h6;go_enter func272,ntmps272;go_wp2_with fail;go_loopw [12] (λi wr=>∃ k:Nat,k<=l.length/\i = .int .i64 k/\Hid (Below w.heap.size w wr)/\Hid (∀ j g,j<k->l[j]?=some g->Np.SigOk a.data.toList l j g)) (λi _=>l.length - (intOf i).toNat)
  case atStart=>exact⟨0,jQ _,rfl,jq (vQ _ _),jq (λj g hj=>by omega)⟩
  case round=>
   obtain⟨k,hk,rfl,HB,HA⟩:=hrel;by_cases aa:k<l.length
   ·have d9:=H.out.keep cC HB.out;have ac:=aQ aa;obtain⟨b,o,c',s,hA,du,hs,ag,e0,e1,e2,e3,e4,e5⟩:=xz d9 ac
    cases hA
    have EM:=aQ (show 0<l.length by omega);obtain⟨b',o',c'',s',hA,_,_,_,_,z1,z2,z3,z4,_⟩:=xz d9 EM;simp only[Value.slice.injEq,Option.some.injEq,Addr.mk.injEq,and_true,true_and] at hA;obtain⟨⟨rfl,rfl⟩,-⟩:=hA;simp only[Nat.zero_mul,Nat.add_zero] at z3 z4;have HN:Hid (∀ h:Np.SigOk a.data.toList l k l[k],∀ j g,j<k+1->l[j]?=some g->Np.SigOk a.data.toList l j g):=jq (λh=>Xa ac HA.out h);have HF:Hid (¬ Np.SigOk a.data.toList l k l[k]->r=false):=jq (λh=>HR.out ▸ Ue ac h);have HZ:=jq EM;have rO:=jq ac;have HS:=jq hs;have vl:=HB.out.size;have I9:b<wr.heap.size:=by omega
    have ca:Hid (∀ o n,Below w.heap.size w ((wr.alloc o).drewN n)):=jq (λo n=>below_drewN (HB.out.alloc HB.out.size _) _);have nd:Hid (∀ o,Below w.heap.size w (wr.alloc o)):=jq (λo=>(HB.out.alloc HB.out.size _));have cN:(0:Int)<=(k:Int):=by omega
    have cO:(k:Int)<(l.length:Int):=by omega
    have aK:(0:Int)<(l.length:Int):=by omega
    have OV:Hid (∀ m,k=m+1->∃ y,l[m]?=some y/\wr.cell? ⟨b,o+m * 6+1,none⟩=some (.int .i64 y.key)):=jq (λm hm=>by
     obtain⟨b2,o2,c2,s2,hA,_,_,_,_,y1,_⟩:=xz d9 (aQ (show m<l.length by omega));simp only[Value.slice.injEq,Option.some.injEq,Addr.mk.injEq,and_true,true_and] at hA;obtain⟨⟨rfl,rfl⟩,-⟩:=hA;exact⟨_,aQ (by omega),y1⟩)
    generalize l[k]=x at *;generalize l[0]=x0 at *;clear d9 hs ac EM z1 z2;have DZ:((!s.toList == a.toList)=true)\/(!s.toList == a.toList)=false/\(decide (x.key<1)=true\/decide (x.key<1)=false/\(decide (1000000<x.key)=true\/decide (1000000<x.key)=false/\(decide (x.alg<1)=true\/decide (x.alg<1)=false/\(decide (3<x.alg)=true\/decide (3<x.alg)=false/\(decide (x.frm<0)=true\/decide (x.frm<0)=false/\(decide (x.til<x.frm)=true\/decide (x.til<x.frm)=false/\(decide (20000000<x.til)=true\/decide (20000000<x.til)=false))))))):=by
     simp only[Qa,decide_eq_false_iff_not];by_cases q:s.toList=a.toList
     ·simp[q];omega
     ·exact .inl (by simpa using q)
    rcases DZ with d1 | ⟨d1,d2 | ⟨d2,d3 | ⟨d3,d4 | ⟨d4,d5 | ⟨d5,d6 | ⟨d6,d7 | ⟨d7,d8 | d8⟩⟩⟩⟩⟩⟩⟩
    rotate_right
    ·by_cases qR:k=0
     ·have nU:decide ((0:Int)<(k:Int))=false:=by simp;omega
      have qV:decide (0<k)=false:=by simp;omega
      have dO:Hid (Np.SigOk a.data.toList l k x):=jq (by
       have e1:s.toList=a.toList:=by simpa using d1
       rw[dQ,dQ] at e1;simp only[decide_eq_false_iff_not] at d2 d3 d4 d5 d6 d7 d8;have cR:x0=x:=by
        have h1:=HZ.out;rw[<-qR,rO.out] at h1;exact (Option.some.inj h1).symm
       refine⟨by rw[<-HS.out,e1],by omega,by omega,by omega,λq hq=>?_,λp _ h0=>by omega⟩;rw[HZ.out] at hq;cases hq;rw[cR];exact⟨rfl,rfl⟩)
      clear qR;go_wp2_with fail;go_quiet (fail);go_wp2_with fail;go_roundw
      case rel=>exact⟨k+1,by omega,by go_num,jq (ca.out _ _),jq (HN.out dO.out)⟩
      case measure=>simp[intOf] <;> omega
     ·obtain⟨m,rfl⟩:∃ m,k=m+1:=⟨k - 1,by omega⟩;obtain⟨y,hy,y1⟩:=OV.out m rfl;have HY:=jq hy;have nU:decide ((0:Int)<((m+1:Nat):Int))=true:=by simp
      have am:IntKind.i64.wrap (((m+1:Nat):Int) - 1)=(m:Int):=by rw[IntWalk.i64_in _ (by omega)];omega
      have pm:(0:Int)<=(m:Int):=by omega
      have Ab:(m:Int)<(l.length:Int):=by omega
      have Sd:((x.frm != x0.frm)=true)\/(x.frm != x0.frm)=false/\((x.til != x0.til)=true\/(x.til != x0.til)=false/\(decide (x.key<=y.key)=true\/decide (x.key<=y.key)=false)):=by
       simp only[bne_iff_ne,bne_eq_false_iff_eq,Qa,decide_eq_false_iff_not];omega
      clear hy qR;rcases Sd with c1 | ⟨c1,c2 | ⟨c2,c3 | c3⟩⟩
      rotate_right
      ·have dO:Hid (Np.SigOk a.data.toList l (m+1) x):=jq (by
        have e1:s.toList=a.toList:=by simpa using d1
        rw[dQ,dQ] at e1;simp only[decide_eq_false_iff_not,bne_eq_false_iff_eq] at d2 d3 d4 d5 d6 d7 d8 c1 c2 c3;refine⟨by rw[<-HS.out,e1],by omega,by omega,by omega,λq hq=>?_,λp hp h0=>?_⟩
        ·rw[HZ.out] at hq;cases hq;exact⟨c1,c2⟩
        ·rw[show m+1 - 1=m by omega,HY.out] at hp;cases hp;omega)
       go_wp2_with fail;go_quiet (fail);go_wp2_with fail;go_roundw
       case rel=>exact⟨m+1+1,by omega,by go_num,jq (ca.out _ _),jq (HN.out dO.out)⟩
       case measure=>simp[intOf] <;> omega
      all_goals
       go_wp2_with fail;go_quiet (fail);go_wp2_with fail;go_ret;refine⟨aj (HF.out ?_).symm,ca.out _ _⟩;intro jh;have k5:=jh.same _ HZ.out;have k6:=jh.up _ HY.out (by omega);simp only[bne_iff_ne,bne_eq_false_iff_eq,Qa,decide_eq_false_iff_not] at *;omega
    all_goals
     go_wp2_with fail;go_ret;refine⟨aj (HF.out ?_).symm,nd.out _⟩;intro jh;obtain⟨k1,k2,k3,k4,_,_⟩:=jh
     first
      | (rw[dQ,dQ,HS.out,k1] at d1;simp at d1;done)
      | (simp only[Qa,decide_eq_false_iff_not] at *;omega)
   ·go_wp2_with fail;go_ret;refine⟨aj ?_,HB.out⟩;rw[<-HR.out];exact (Np.dz ⟨H6.out,λj g hg=>HA.out j g (by have:=(cQ.1 hg).1;omega) hg⟩).symm
 ·have h6':6<l.length:=by omega
  have HF:Hid (r=false):=jq (by rw[<-HR.out];exact Np.bP λhf=>h6 hf.1);clear h6;go_enter func272,ntmps272;go_wp2_with fail;go_ret;exact⟨aj HF.out.symm,vQ _ _⟩
theorem Mt(s:ByteArray)(hs:s.size<=140737488355328)(w:World) :
 Calls prog 242 #[.string s,.string ⟨#[42]⟩] w (agZ w (.bool (Np.eU s.data.toList))):=by
 have h1:1<=s.size->((s.extract 0 1).toList == [42])=Np.eU s.data.toList:=EP s;have h2:s.size<1->Np.eU s.data.toList=false:=λh=>by
  have:s.data.toList = []:=rQ (by rw[bG];omega)
  rw[this];rfl
 have H1:=jq h1;have H2:=jq h2;clear h1 h2;go_enter func242,ntmps242;go_wp2
 ·go_ret;exact⟨aj (H1.out (by omega)),rfl⟩
 ·go_ret;exact⟨aj (H2.out (by omega)).symm,rfl⟩
def tO(l:List Np.Signed)(k:Nat):Option Np.DSet:=(l.take k).getLast?.map (·.set)
theorem Mx{l:List Np.Signed}{k:Nat}{x:Np.Signed}(h:l[k]?=some x):tO l (k+1)=some x.set:=by
 obtain⟨hl,rfl⟩:=cQ.1 h;unfold tO;rw[fQ hl,List.getLast?_append];rfl
theorem YO{apex:List UInt8}{l:List Np.Signed}{k:Nat}{x:Np.Signed}(h:l[k]?=some x)(p:Option Np.DSet) :
 Np.jD apex p (l.drop k)=((Np.aG x.set.name&&Np.dm x.set.name apex)&&Np.bO x.set&&(match p with | none=>true | some q=>decide (Np.iJ q x.set<0))&&Np.jD apex (some x.set) (l.drop (k+1))):=by
 obtain⟨hl,rfl⟩:=cQ.1 h;rw[sQ hl]
 cases p <;> rfl
def Pu(w1:World)(apex:List UInt8)(l:List Np.Signed)(i:Value)(wr:World):Prop:=
 ∃ k:Nat,k<=l.length/\i = .int .i64 k/\Below w1.heap.size w1 wr/\Hid (∀ j x,j<k->l[j]?=some x->Np.bO x.set=true)/\Hid (Np.jD apex none l=Np.jD apex (tO l k) (l.drop k))
theorem YP(a:ByteArray)(ha:a.size<=140737488355328)(v:Value)(l:List Np.Signed)(dG:l.length<=20000)(w:World)(hR:dS w w.heap.size)(hd:SlR cU 5 w w.heap.size v l) :
 Calls prog 198 #[.agg #[.string a,v]] w (agQ w.heap.size w (.bool (Np.g8 ⟨a.data.toList,l⟩))):=by
 have HR:=jq hR;have HD:=jq hd;obtain⟨A,c,rfl,aT,cu,-⟩:=hd;clear hR;have HW:Hid (∀ o,Below w.heap.size w (w.alloc o)):=jq (λo=>(vQ _ w).alloc (bQ _) _);go_enter func198,ntmps198;go_wp2_with fail;refine (nameValid_any _ ha _).mono ?_;rintro e w1 ⟨rfl,hb⟩;have c0:w1.cell? ⟨w.heap.size,0,none⟩=some (.string a):=by rw[hb.cell (by simp)];go_simp
 have c1:w1.cell? ⟨w.heap.size,1,none⟩=some (.slice A l.length c):=by rw[hb.cell (by simp)];go_simp
 have cP:w.heap.size<w1.heap.size:=by have:=hb.size;simp at this;omega
 have aD:=jq ((HW.out _).trans (hb.mono (by simp)));clear hb
 cases rb:Np.aG a.data.toList with
 | false=>
  have HF:Hid (Np.g8 ⟨a.data.toList,l⟩=false):=jq (by unfold Np.g8;rw[rb];rfl);clear rb;go_wp2_with fail;go_ret;exact⟨aj HF.out.symm,aD.out⟩
 | true=>
  have GX:=jq rb;clear rb
  cases gg:Np.eU a.data.toList with
  | true=>
   have HF:Hid (Np.g8 ⟨a.data.toList,l⟩=false):=jq (by unfold Np.g8;rw[gg];simp);go_wp2_with (go_at_call 242;refine (Mt a ha _).mono ?_;rintro e w' ⟨rfl,rfl⟩);go_ret;exact⟨aj HF.out.symm,aD.out⟩
  | false=>
   have HF:Hid (Np.g8 ⟨a.data.toList,l⟩=Np.jD a.data.toList none l):=jq (by unfold Np.g8;rw[gg,GX.out];simp);go_wp2_with (go_at_call 242;refine (Mt a ha _).mono ?_;rintro e w' ⟨rfl,rfl⟩);clear gg;go_loopw [30] (λi wr=>Pu w1 a.data.toList l i wr) (λi _=>l.length - (intOf i).toNat)
   case atStart=>exact⟨0,jQ _,rfl,vQ _ _,jq (λj x hj=>by omega),jq rfl⟩
   case round=>
    obtain⟨k,hk,rfl,aV,HV,HG⟩:=hrel;by_cases aa:k<l.length
    ·have qI:Below w.heap.size w wr:=aD.out.trans (aV.acJ);have ac:=aQ aa;obtain⟨b,o,c',sn,dv,sv,hA,du,_,aP,ag,be,aY,e0,e1,e2,e3,e4⟩:=iV (HD.out.keep da qI) ac
     cases hA
     generalize hx:l[k]=x at *;clear hx;obtain⟨Ad,cd,rfl,ZJ,sL⟩:=ar be;obtain⟨As,cs,rfl,hcs,Z4⟩:=ar aY;have d0:wr.cell? ⟨w.heap.size,0,none⟩=some (.string a):=by rw[aV.cell (by simpa using cP)];exact c0
     have d1:wr.cell? ⟨w.heap.size,1,none⟩=some (.slice (some ⟨b,o,none⟩) l.length c):=by rw[aV.cell (by simpa using cP)];exact c1
     have cg:w.heap.size<wr.heap.size:=by have:=aV.size;omega
     have mg:=jq be;have HX:=jq ac;have cK:=jq aP;have bg:=jq aV;have Na:=jq qI;have rP:=jq (HG.out.trans (YO ac (tO l k)));clear be aY ac aP aV qI c0 c1;go_wp2_with fail;have eO:Below wr.heap.size wr (wr.alloc (.cells #[.string sn,.int .i64 x.set.type,.int .i64 x.set.life,.slice Ad x.set.data.length cd,.slice As x.sigs.length cs] 42)):=(vQ _ _).alloc (bQ _) _;have p0:=World.cell?_alloc_new wr #[.string sn,.int .i64 x.set.type,.int .i64 x.set.life,.slice Ad x.set.data.length cd,.slice As x.sigs.length cs] 42 0;have p1:=World.cell?_alloc_new wr #[.string sn,.int .i64 x.set.type,.int .i64 x.set.life,.slice Ad x.set.data.length cd,.slice As x.sigs.length cs] 42 1;have ki:wr.heap.size<(wr.alloc (.cells #[.string sn,.int .i64 x.set.type,.int .i64 x.set.life,.slice Ad x.set.data.length cd,.slice As x.sigs.length cs] 42)).heap.size:=by simp
     generalize wr.alloc (.cells #[.string sn,.int .i64 x.set.type,.int .i64 x.set.life,.slice Ad x.set.data.length cd,.slice As x.sigs.length cs] 42)=wa at eO p0 p1 ki |-;have fS:=jq eO;have FI:=aaK Na eO;replace p0:wa.cell? ⟨wr.heap.size,0,none⟩=some (.string sn):=p0;replace p1:wa.cell? ⟨wr.heap.size,1,none⟩=some (.int .i64 x.set.type):=p1;replace d0:wa.cell? ⟨w.heap.size,0,none⟩=some (.string a):=by rw[eO.cell (by simpa using cg)];exact d0
     replace d1:wa.cell? ⟨w.heap.size,1,none⟩=some (.slice (some ⟨b,o,none⟩) l.length c):=by rw[eO.cell (by simpa using cg)];exact d1
     clear eO e0 e1 e2 e3 e4;refine (Bk sn ag _ _ _ x.set.data _ ((HR.out.keep FI.out).more (by omega)) ((mg.out.keep bq (fS.out.acJ)).more bD (by omega))).mono ?_;have qZ:(⟨sn.data.toList,x.set.type,x.set.life,x.set.data⟩:Np.DSet)=x.set:=by rw[cK.out]
     rw[qZ];clear qZ;rintro e w2 ⟨rfl,ab⟩;have aC:wr.heap.size<w2.heap.size:=by have:=ab.size;omega
     have afK:w.heap.size<w2.heap.size:=by omega
     replace d0:w2.cell? ⟨w.heap.size,0,none⟩=some (.string a):=by rw[ab.cell (by simp;omega)];exact d0
     replace d1:w2.cell? ⟨w.heap.size,1,none⟩=some (.slice (some ⟨b,o,none⟩) l.length c):=by rw[ab.cell (by simp;omega)];exact d1
     replace p0:w2.cell? ⟨wr.heap.size,0,none⟩=some (.string sn):=by rw[ab.cell (by simpa using ki)];exact p0
     replace p1:w2.cell? ⟨wr.heap.size,1,none⟩=some (.int .i64 x.set.type):=by rw[ab.cell (by simpa using ki)];exact p1
     have ai:=aaK FI ab;have xV:=aaK fS ab;clear ab
     cases jK:Np.bO x.set with
     | false=>
      have lz:=jq jK;clear jK;go_wp2_with fail;go_ret;refine⟨aj ?_,ai.out⟩;rw[HF.out,rP.out,lz.out,Bool.and_false];rfl
     | true=>
      have lz:=jq jK;have rc:Np.aG sn.data.toList=true:=by rw[cK.out];exact Fn jK
      have iZ:=jq rc;have I3:∀ j y,j<k+1->l[j]?=some y->Np.bO y.set=true:=λj y hj hy=>by
       by_cases e:j=k
       ·subst e;rw[HX.out] at hy;cases hy;exact jK
       ·exact HV.out j y (by omega) hy
      have tU:=jq I3;clear jK rc I3;go_wp2_with fail;refine (BD sn a ag ha _ iZ.out GX.out).mono ?_;rintro e w3 ⟨rfl,ae⟩;have gh:wr.heap.size<w3.heap.size:=by have:=ae.size;omega
      have afX:w.heap.size<w3.heap.size:=by omega
      replace d1:w3.cell? ⟨w.heap.size,1,none⟩=some (.slice (some ⟨b,o,none⟩) l.length c):=by rw[ae.cell (by simp;omega)];exact d1
      replace p0:w3.cell? ⟨wr.heap.size,0,none⟩=some (.string sn):=by rw[ae.cell (by simpa using aC)];exact p0
      replace p1:w3.cell? ⟨wr.heap.size,1,none⟩=some (.int .i64 x.set.type):=by rw[ae.cell (by simpa using aC)];exact p1
      have ay:=aaK ai ae;have FE:=aaK xV ae;clear ae d0
      cases fk:Np.dm sn.data.toList a.data.toList with
      | false=>
       have qo:=jq fk;clear fk;go_wp2_with fail;go_ret;refine⟨aj ?_,ay.out⟩;rw[HF.out,rP.out,<-cK.out,iZ.out,qo.out];rfl
      | true=>
       have dP:=jq (show Np.jD a.data.toList none l=((match tO l k with | none=>true | some q=>decide (Np.iJ q x.set<0))&&Np.jD a.data.toList (tO l (k+1)) (l.drop (k+1))) by
        rw[rP.out,<-cK.out,iZ.out,fk,lz.out,Mx HX.out];rfl)
       clear fk;by_cases cN:k=0
       ·subst cN;go_wp2_with fail;go_roundw
        case rel=>exact⟨1,by omega,by go_num,bg.out.trans (FE.out.mono bg.out.size),tU,jq (by rw[dP.out];rfl)⟩
        case measure=>simp[intOf] <;> omega
       ·obtain⟨i,rfl⟩:∃ i,k=i+1:=⟨k - 1,by omega⟩;have zZ:=aQ (show i<l.length by omega);obtain⟨b',o',c'',sq,dq,sg,nD,R1,_,ta,Ty,Jl,_,f0,f1,f2,f3,_⟩:=iV ((HD.out.keep da ay.out)) zZ
        cases nD
        have Kh:=Fn (HV.out i l[i] (by omega) zZ);generalize hy:l[i]=y at *;clear hy;obtain⟨Aq,cq,rfl,ZL,S7⟩:=ar Jl;have sS:((((i+1:Nat):Int)) == 0)=false:=by simp;omega
        have Pc:Hid (Np.aG sq.data.toList=true):=jq (by rw[ta];exact Kh);have NB:Hid (Np.dp (sq.data.toList,y.set.type) (sn.data.toList,x.set.type)=Np.iJ y.set x.set):=jq (by rw[ta,cK.out,Np.Dd];rfl);have yC:=jq (Mx zZ);clear Jl ta zZ Kh;have ZI:b<w3.heap.size:=by omega
        have am:IntKind.i64.wrap (((i+1:Nat):Int) - 1)=(i:Int):=by rw[IntWalk.i64_in _ (by omega)];omega
        have pm:(0:Int)<=(i:Int):=by omega
        have Ab:(i:Int)<(l.length:Int):=by omega
        have ox:Hid (∀ o,Below w3.heap.size w3 (w3.alloc o)):=jq (λo=>(vQ _ _).alloc (bQ _) _);go_wp2_with fail;refine (Ms sq sn Ty ag _ _ Pc.out iZ.out _).mono ?_;rw[NB.out];rintro e w4 ⟨rfl,ah⟩;have bl:=jq ((ox.out _).trans (ah.mono (by simp)));clear ah;by_cases pd:Np.iJ y.set x.set<0
        ·have oB:=jq (uQ pd);have Sf:¬ (0<=Np.iJ y.set x.set):=by omega
         clear pd;go_wp2_with fail;go_roundw
         case rel=>
          refine⟨i+1+1,by omega,by go_num,bg.out.trans ((FE.out.trans (bl.out.acJ)).mono bg.out.size),tU,jq ?_⟩;rw[dP.out,yC.out];simp only[oB.out,Bool.true_and]
         case measure=>simp[intOf] <;> omega
        ·have oB:=jq (tQ pd);have Sf:0<=Np.iJ y.set x.set:=by omega
         clear pd;go_wp2_with fail;go_ret;refine⟨aj ?_,ay.out.trans (bl.out.acJ)⟩;rw[HF.out,dP.out,yC.out];simp only[oB.out,Bool.false_and]
    ·go_wp2_with fail;go_ret;refine⟨aj ?_,aD.out.trans (aV.acJ)⟩;rw[HF.out,HG.out,List.drop_eq_nil_of_le (by omega)];rfl
theorem QR(s1 s2:ByteArray)(h1:s1.size<=140737488355328)(h2:s2.size<=140737488355328)(t1 l1 t2:Int)(A1 A2:Option Addr)(m1 c1 m2 c2:Nat)(n1:Np.aG s1.data.toList=true)(n2:Np.aG s2.data.toList=true)(w:World) :
 Calls prog 328 #[.agg #[.string s1,.int .i64 t1,.int .i64 l1,.slice A1 m1 c1,.slice A2 m2 c2],.agg #[.string s2,.int .i64 t2]] w
  λe w'=>e = .returned (.int .i64 (Np.dp (s1.data.toList,t1) (s2.data.toList,t2)))/\Below w.heap.size w w':=by
 have HW:Hid (∀ o o',Below w.heap.size w ((w.alloc o).alloc o')):=jq (λo o'=>((vQ _ w).alloc (bQ _) _).alloc (by simp) _);have N1:=jq n1;have N2:=jq n2;clear n1 n2;go_enter func328,ntmps328;go_wp2_with fail;refine (Ms s1 s2 h1 h2 _ _ N1.out N2.out _).mono ?_;rintro e w1 ⟨rfl,hb⟩;have HB:=jq ((HW.out _ _).trans (hb.mono (by simp;omega)));clear hb;go_wp2_with fail;go_ret;exact⟨rfl,HB.out⟩
def Np.xo(l:List Np.Signed)(key:List UInt8×Int):Nat:=l.countP λx=>decide (Np.dp (Np.cX x.set) key<0)
def Np.qy(l:List Np.Signed):Prop:=l.Pairwise λa b=>Np.dp (Np.cX a.set) (Np.cX b.set)<0
theorem VS{l:List Np.Signed}{key:List UInt8×Int}{i:Nat}(hi:i<=l.length)(h1:∀ j x,j<i->l[j]?=some x->Np.dp (Np.cX x.set) key<0)(h2:∀ j x,i<=j->l[j]?=some x->¬ Np.dp (Np.cX x.set) key<0):Np.xo l key=i:=by
 unfold Np.xo;have e:=List.take_append_drop i l;rw[<-e,List.countP_append,List.countP_eq_length.2,List.countP_eq_zero.2]
 ·rw[List.length_take];omega
 ·intro x hx;obtain⟨j,hj,rfl⟩:=nQ.1 hx;rw[List.getElem_drop];simpa using h2 (i+j) _ (by omega) (aQ _)
 ·intro x hx;obtain⟨j,hj,rfl⟩:=nQ.1 hx;rw[List.getElem_take];rw[List.length_take] at hj;simpa using h1 j _ (by omega) (aQ _)
theorem Q4{l:List Np.Signed}(hs:Np.qy l){key:List UInt8×Int}{i:Nat}(h1:∀ j x,j<i->l[j]?=some x->Np.dp (Np.cX x.set) key<0)(h2:∀ j x,i<=j->l[j]?=some x->¬ Np.dp (Np.cX x.set) key<0):(∃ x∈l,Np.cX x.set=key)↔∃ x,l[i]?=some x/\Np.dp (Np.cX x.set) key=0:=by
 constructor
 ·rintro⟨x,hx,rfl⟩;obtain⟨j,hj,rfl⟩:=nQ.1 hx;have Tv:=Np.tK.self (Np.cX l[j].set);rcases Nat.lt_trichotomy j i with h | h | h
  ·have:=h1 j _ h (aQ hj)
   omega
  ·subst h;exact⟨_,aQ hj,Tv⟩
  ·exact absurd (List.pairwise_iff_getElem.1 hs i j (by omega) hj h) (h2 i _ (bQ _) (aQ (by omega)))
 ·rintro⟨x,hx,h⟩;exact⟨x,gQ hx,Np.tK.zero _ _ h⟩
theorem E6{l:List Np.Signed}(hs:Np.qy l){i j:Nat}{x y:Np.Signed}(hx:l[i]?=some x)(hy:l[j]?=some y)(h:i<j):Np.dp (Np.cX x.set) (Np.cX y.set)<0:=by
 obtain⟨hi,rfl⟩:=cQ.1 hx;obtain⟨hj,rfl⟩:=cQ.1 hy;exact List.pairwise_iff_getElem.1 hs i j hi hj h
theorem Xk{z:Np.Zone}(h:Np.InOrder z):Np.qy z.sets:=by
 have:=h.order
 rw[List.pairwise_map] at this;exact this.imp λh=>by rw[<-Np.Dd];exact h
def Np.kJ(l:List Np.Signed)(n:List UInt8)(t:Int):Prop:=∃ x∈l,x.set.name=n/\x.set.type=t
theorem RW{l:List Np.Signed}{n:List UInt8}{t:Int} : Np.kJ l n t↔∃ x∈l,Np.cX x.set=(n,t):=by
 unfold Np.kJ Np.cX;simp only[Prod.mk.injEq]
theorem PY(v:Value)(l:List Np.Signed)(dG:l.length<=20000)(hv:∀ x∈l,Np.aG x.set.name=true)(hs:Np.qy l)(q:ByteArray)(hq:q.size<=140737488355328)(qt:Int)(nq:Np.aG q.data.toList=true)(w:World)(hd:SlR cU 5 w w.heap.size v l) :
 Calls prog 327 #[v,.agg #[.string q,.int .i64 qt],.func (.func 328) #[] #[]] w
  λe w'=>e = .returned (.tuple #[.int .i64 (Np.xo l (q.data.toList,qt)),.bool (Np.yes (Np.kJ l q.data.toList qt))])/\Below w.heap.size w w':=by
 obtain⟨pl,sW⟩:=abY (Np.xo l (q.data.toList,qt));obtain⟨r,hr⟩:=abY (Np.yes (Np.kJ l q.data.toList qt));rw[sW,hr];have ly:=jq sW;have HR:=jq hr;have HV:=jq hv;have HS:=jq hs;have HD:=jq hd;have NQ:=jq nq;have eg:∀ args w,(callFunc 328 args).run prog w = .ok (.enter 328 args) w:=enters_of func328 (by kernel_rfl) rfl;obtain⟨A,c,rfl,aT,cu⟩:=ar hd;clear sW hr hv hs hd nq;have HW:Hid (∀ o,Below w.heap.size w (w.alloc o)):=jq (λo=>(vQ _ w).alloc (bQ _) _);go_enter func327,ntmps327;go_wp2_with fail;have c0:=World.cell?_alloc_new w #[.string q,.int .i64 qt] 31 0;have c1:=World.cell?_alloc_new w #[.string q,.int .i64 qt] 31 1;have cP:w.heap.size<(w.alloc (.cells #[.string q,.int .i64 qt] 31)).heap.size:=by simp
 have aD:=jq (HW.out (.cells #[.string q,.int .i64 qt] 31));generalize w.alloc (.cells #[.string q,.int .i64 qt] 31)=w1 at c0 c1 cP aD |-;replace c0:w1.cell? ⟨w.heap.size,0,none⟩=some (.string q):=c0;replace c1:w1.cell? ⟨w.heap.size,1,none⟩=some (.int .i64 qt):=c1;go_loopg [9,10] l.length (λg s7 s8 wr=>∃ lo hi:Nat,s7 = .int .i64 lo/\s8 = .int .i64 hi/\lo<=hi/\hi<=l.length/\hi - lo<=g/\Hid (Below w1.heap.size w1 wr)/\Hid ((∀ j x,j<lo->l[j]?=some x->Np.dp (Np.cX x.set) (q.data.toList,qt)<0)/\(∀ j x,hi<=j->l[j]?=some x->¬ Np.dp (Np.cX x.set) (q.data.toList,qt)<0)))
 case atStart=>exact⟨0,l.length,rfl,rfl,jQ _,bQ _,by omega,jq (vQ _ _),jq ⟨λj x hj=>by omega,λj x hj hx=>by have:=(cQ.1 hx).1;omega⟩⟩
 case round=>
  obtain⟨lo,hi,rfl,rfl,Z3,hin,hg,HB,HI⟩:=hrel;have aeY:=HB.out.size;have d0:wr.cell? ⟨w.heap.size,0,none⟩=some (.string q):=by rw[HB.out.cell (by simpa using cP)];exact c0
  have d1:wr.cell? ⟨w.heap.size,1,none⟩=some (.int .i64 qt):=by rw[HB.out.cell (by simpa using cP)];exact c1
  have cg:w.heap.size<wr.heap.size:=by omega
  have bp:=aaK aD HB.out;have Sz:∀ (g:bU wr) (p:Addr),p.block<wr.heap.size->g.w.cell? p=wr.cell? p:=λg p h=>g.cell p h;have d9:=HD.out.keep da bp.out;have FV:Hid (∀ (k:Nat) (x:Np.Signed),l[k]?=some x->∃ (b o c':Nat) (s:ByteArray) (Ad:Option Addr) (md cd:Nat) (As:Option Addr) (ms cs:Nat),A=some ⟨b,o,none⟩/\b<wr.heap.size/\wr.cell? ⟨b,o+k * 5,none⟩=some (.string s)/\wr.cell? ⟨b,o+k * 5+1,none⟩=some (.int .i64 x.set.type)/\wr.cell? ⟨b,o+k * 5+2,none⟩=some (.int .i64 x.set.life)/\wr.cell? ⟨b,o+k * 5+3,none⟩=some (.slice Ad md cd)/\wr.cell? ⟨b,o+k * 5+4,none⟩=some (.slice As ms cs)/\
   ∀ g:bU wr,Calls prog 328 #[.agg #[.string s,.int .i64 x.set.type,.int .i64 x.set.life,.slice Ad md cd,.slice As ms cs],.agg #[.string q,.int .i64 qt]] g.w λe w'=>e = .returned (.int .i64 (Np.dp (Np.cX x.set) (q.data.toList,qt)))/\Below g.w.heap.size g.w w'):=jq (λk x hx=>by
   obtain⟨b,o,c',s,dv,sv,hA,du,_,aP,ag,be,aY,e0,e1,e2,e3,e4⟩:=iV d9 hx
   cases hA
   obtain⟨Ad,cd,rfl,_,_⟩:=ar be;obtain⟨As,cs,rfl,_,_⟩:=ar aY;refine⟨b,o,c,s,Ad,_,cd,As,_,cs,rfl,by omega,e0,e1,e2,e3,e4,λg=>?_⟩
   have:=QR s q ag hq x.set.type x.set.life qt Ad As x.set.data.length cd x.sigs.length cs (by rw[aP];exact HV.out x (gQ hx)) NQ.out g.w
   rw[aP] at this;exact this)
  clear d9 c0 c1;by_cases aa:lo<hi
  ·obtain⟨k,hk⟩:=abY ((lo+hi) / 2);have kP:k<l.length:=by omega
   have ac:=aQ kP;obtain⟨b,o,c',s,Ad,md,cd,As,ms,cs,rfl,aV,e0,e1,e2,e3,e4,jG⟩:=FV.out k _ ac;generalize hx:l[k]=x at *;have HX:=jq ac;have jP:=jq jG;have ZV:((lo:Int)+(hi:Int)) / 2=(k:Int):=by omega
   have HK:=jq hk;have cN:(0:Int)<=(k:Int):=by omega
   have cO:(k:Int)<(l.length:Int):=by omega
   clear ac jG hx hk;by_cases hc:Np.dp (Np.cX x.set) (q.data.toList,qt)<0
   ·have HN:Hid (∀ j y,j<k+1->l[j]?=some y->Np.dp (Np.cX y.set) (q.data.toList,qt)<0):=jq (λj y hj hy=>by
     by_cases e:j=k
     ·subst e;rw[HX.out] at hy;cases hy;exact hc
     ·exact Np.tK.trans _ _ _ (E6 HS.out hy HX.out (by omega)) hc)
    have dZ:decide (Np.dp (Np.cX x.set) (q.data.toList,qt)<0)=true:=by simpa using hc
    clear hc;go_wp2_with fail;refine aeZ ?_
    repeat (go_big_quiet_step ((go_at_call 328;exact Calls.grow_of (jP.out _))))
    refine wpQuiet_nil ?_;rintro _ ⟨g,rfl⟩;go_wp2_with fail;go_roundg (hi - (k+1))
    case measure=>have:=HK.out;omega
    case rel=>exact⟨k+1,hi,by go_num,rfl,by have:=HK.out;omega,hin,bQ _,aaK HB g.below,jq ⟨HN.out,HI.out.2⟩⟩
   ·have HN:Hid (∀ j y,k<=j->l[j]?=some y->¬ Np.dp (Np.cX y.set) (q.data.toList,qt)<0):=jq (λj y hj hy aa=>by
     by_cases e:j=k
     ·subst e;rw[HX.out] at hy;cases hy;exact hc aa
     ·exact hc (Np.tK.trans _ _ _ (E6 HS.out HX.out hy (by omega)) aa))
    have dZ:decide (Np.dp (Np.cX x.set) (q.data.toList,qt)<0)=false:=by simpa using hc
    clear hc;go_wp2_with fail;refine aeZ ?_
    repeat (go_big_quiet_step ((go_at_call 328;exact Calls.grow_of (jP.out _))))
    refine wpQuiet_nil ?_;rintro _ ⟨g,rfl⟩;go_wp2_with fail;go_roundg (k - lo)
    case measure=>have:=HK.out;omega
    case rel=>exact⟨lo,k,rfl,by go_num,by have:=HK.out;omega,by omega,bQ _,aaK HB g.below,jq ⟨HI.out.1,HN.out⟩⟩
  ·obtain rfl:hi=lo:=by omega
   have HE:Hid (pl=hi):=jq (by rw[<-ly.out];exact VS hin HI.out.1 HI.out.2);have HF:Hid (r=Np.yes (∃ x,l[hi]?=some x/\Np.dp (Np.cX x.set) (q.data.toList,qt)=0)):=jq (by rw[<-HR.out];exact Np.xM (RW.trans (Q4 HS.out HI.out.1 HI.out.2)));by_cases hn:hi<l.length
   ·have ac:=aQ hn;obtain⟨b,o,c',s,Ad,md,cd,As,ms,cs,rfl,aV,e0,e1,e2,e3,e4,jG⟩:=FV.out hi _ ac;generalize hx:l[hi]=x at *;have HX:=jq ac;have jP:=jq jG;have cN:(0:Int)<=(hi:Int):=by omega
    have cO:(hi:Int)<(l.length:Int):=by omega
    clear ac jG hx;by_cases hc:Np.dp (Np.cX x.set) (q.data.toList,qt)=0
    ·have HT:Hid (r=true):=jq (by rw[HF.out];exact Np.dz ⟨x,HX.out,hc⟩);have dZ:(Np.dp (Np.cX x.set) (q.data.toList,qt) == 0)=true:=by simpa using hc
     clear hc;go_wp2_with fail;refine aeZ ?_
     repeat (go_big_quiet_step ((go_at_call 328;exact Calls.grow_of (jP.out _))))
     refine wpQuiet_nil ?_;rintro _ ⟨g,rfl⟩;go_wp2_with fail;go_ret2;exact⟨by rw[HE.out,HT.out];rfl,bp.out.trans (g.below.acJ)⟩
    ·have HT:Hid (r=false):=jq (by rw[HF.out];exact Np.bP λ⟨y,hy,h0⟩=>by rw[HX.out] at hy;cases hy;exact hc h0);have dZ:(Np.dp (Np.cX x.set) (q.data.toList,qt) == 0)=false:=by simpa using hc
     clear hc;go_wp2_with fail;refine aeZ ?_
     repeat (go_big_quiet_step ((go_at_call 328;exact Calls.grow_of (jP.out _))))
     refine wpQuiet_nil ?_;rintro _ ⟨g,rfl⟩;go_wp2_with fail;go_ret2;exact⟨by rw[HE.out,HT.out];rfl,bp.out.trans (g.below.acJ)⟩
   ·have HT:Hid (r=false):=jq (by rw[HF.out];exact Np.bP λ⟨y,hy,h0⟩=>by have:=(cQ.1 hy).1;omega);have dj:decide ((hi:Int)<(l.length:Int))=false:=by simp;omega
    have fL:decide (hi<l.length)=false:=by simp;omega
    go_wp2_with fail;refine aeZ ?_
    repeat (go_big_quiet_step (fail))
    refine wpQuiet_nil ?_;rintro _ ⟨g,rfl⟩;go_wp2_with fail;go_ret2;exact⟨by rw[HE.out,HT.out];rfl,bp.out.trans (g.below.acJ)⟩
theorem Io(a:ByteArray)(v:Value)(l:List Np.Signed)(dG:l.length<=20000)(hv:∀ x∈l,Np.aG x.set.name=true)(hs:Np.qy l)(q:ByteArray)(hq:q.size<=140737488355328)(qt:Int)(nq:Np.aG q.data.toList=true)(w:World)(hd:SlR cU 5 w w.heap.size v l) :
 Calls prog 262 #[.agg #[.string a,v],.agg #[.string q,.int .i64 qt]] w
  λe w'=>e = .returned (.tuple #[.int .i64 (Np.xo l (q.data.toList,qt)),.bool (Np.yes (Np.kJ l q.data.toList qt))])/\Below w.heap.size w w':=by
 have HV:=jq hv;have HS:=jq hs;have HD:=jq hd;have NQ:=jq nq;obtain⟨A,c,rfl,aT,cu⟩:=ar hd;have HW:Hid (∀ o o',Below w.heap.size w ((w.alloc o).alloc o')):=jq (λo o'=>((vQ _ w).alloc (bQ _) _).alloc (by simp) _);clear hv hs hd nq;go_enter func262,ntmps262;go_wp2_with fail;refine (PY _ l dG HV.out HS.out q hq qt NQ.out _ (HD.out.later da gm (HW.out _ _))).mono ?_;rintro e w1 ⟨rfl,hb⟩;have HB:=jq ((HW.out _ _).trans (hb.mono (by simp;omega)));clear hb;go_wp2_with fail;go_ret2;exact⟨rfl,HB.out⟩
def RTx(_:World)(_:Nat)(e:List Value)(x:List UInt8):Prop:=∃ s:ByteArray,s.data.toList=x/\s.size<=140737488355328/\e = [.string s]
theorem Bq:cj RTx:=λ_ _ _ _ _ h _=>h
theorem Lr:cB RTx:=λ_ _ _ _ _ h _=>h
def eD(a:List UInt8)(l:List Np.Signed):List (List UInt8×Value):=(l.filter λx=>decide (x.set.type=2)&&!(x.set.name == a)).map λx=>(x.set.name,.bool true)
theorem Qr(a:List UInt8)(l:List Np.Signed)(x:Np.Signed):eD a (l ++ [x])=if x.set.type=2/\x.set.name≠a then eD a l ++ [(x.set.name,.bool true)] else eD a l:=by
 unfold eD;rw[List.filter_append];by_cases h1:x.set.type=2 <;> by_cases h2:x.set.name=a <;> simp[h1,h2]
theorem Qq(a:List UInt8)(l:List Np.Signed)(x:Np.Signed):eD a (x::l)=if x.set.type=2/\x.set.name≠a then (x.set.name,.bool true)::eD a l else eD a l:=by
 unfold eD;by_cases h1:x.set.type=2 <;> by_cases h2:x.set.name=a <;> simp[h1,h2]
theorem ze(a:List UInt8)(n:List UInt8):∀ l:List Np.Signed,((eD a l).lookup n).getD (.bool false) = .bool (Np.dT ⟨a,l⟩ n)/\((∀ x∈l,x.set.type=2->x.set.name≠n)->(eD a l).lookup n=none)
 | []=>⟨rfl,λ_=>rfl⟩
 | x::l=>by
   obtain⟨i1,i2⟩:=ze a n l;have e:Np.dT ⟨a,x::l⟩ n=((decide (x.set.type=2)&&!(x.set.name == a)&&x.set.name == n)||Np.dT ⟨a,l⟩ n):=rfl;rw[Qq];split
   ·rename_i h;by_cases hn:x.set.name=n
    ·rw[hn,List.lookup_cons_self];refine⟨?_,λhh=>absurd hn (hh x (by simp) h.1)⟩;rw[e];have h2:=h.2;rw[hn] at h2 |-;simp[h.1,h2]
    ·have hb:(n == x.set.name)=false:=by simpa using λe=>hn e.symm
     rw[List.lookup_cons,hb];refine⟨?_,λhh=>i2 λy hy=>hh y (mQ _ hy)⟩;have ab:(x.set.name == n)=false:=by simpa using hn
     rw[e,ab,Bool.and_false,Bool.false_or];exact i1
   ·rename_i h;refine⟨?_,λhh=>i2 λy hy=>hh y (mQ _ hy)⟩;have hf:(decide (x.set.type=2)&&!(x.set.name == a))=false:=by
     rw[Bool.and_eq_false_iff];by_cases h1:x.set.type=2
     ·right
      have:x.set.name=a:=Decidable.not_not.1 λh2=>h ⟨h1,h2⟩
      simp[this]
     ·left;simpa using h1
    rw[e,hf,Bool.false_and,Bool.false_or];exact i1
theorem KD(n j:Nat)(hj:j<n):(madeCells #[Value.string ⟨#[]⟩] n)[j]?=some (.string ⟨#[]⟩):=by
 unfold madeCells;simp[hj,Nat.mod_one]
theorem Tryz.infoStrZ:(prog.info? 9).map (λi=>(i.zero,i.size,i.bytes))=some (some (.string ⟨#[]⟩),1,16):=by kernel_rfl
theorem KE(n:Nat)(hn:n<=20000)(w:World):(Instr.makeSlice 116 (.int .i64 n) (.int .i64 n)).run prog w = .ok (.slice (some ⟨w.heap.size,0,none⟩) n n) (w.alloc (.cells (madeCells #[Value.string ⟨#[]⟩] n) 9)):=by
 obtain⟨i,hi,hp⟩:=Option.map_eq_some_iff.1 Tryz.infoStrZ;simp only[Prod.mk.injEq] at hp;obtain⟨hz,hs,hb⟩:=hp
 have:=run_make (P:=prog) w 116 9 i (.string ⟨#[]⟩) underlying116 hi hz .i64 .i64 n n (by omega) (Int.le_refl _) (by rw[hb];omega) (by omega)
 rw[hs] at this;simpa [Value.cells] using this
def fV(w:World)(B:Nat)(xs:List (List UInt8)):Prop:=∀ j x,xs[j]?=some x->∃ s:ByteArray,s.data.toList=x/\s.size<=140737488355328/\w.cell? ⟨B,j,none⟩=some (.string s)/\w.frozen? ⟨B,j,none⟩=false
theorem fV.keep{w w':World}{B n:Nat}{xs:List (List UInt8)}(h:fV w B xs)(hb:Below n w w')(hB:B<n):fV w' B xs:=λj x hx=>by
 obtain⟨s,h1,h2,h3,h4⟩:=h j x hx;exact⟨s,h1,h2,(hb.cell (p:=⟨B,j,none⟩) hB).trans h3,(hb.frozen (p:=⟨B,j,none⟩) hB).trans h4⟩
theorem fV.store{w:World}{B:Nat}{xs:List (List UInt8)}(h:fV w B xs){k:Nat}(hk:k<xs.length)(s:ByteArray)(hs:s.size<=140737488355328):fV (w.setCell ⟨B,k,none⟩ (.string s)) B (xs.set k s.data.toList):=λj x hx=>by
 rw[List.getElem?_set] at hx;by_cases vI:k=j
 ·subst vI;rw[Qb rfl,Qb hk] at hx
  cases hx
  obtain⟨s0,_,_,h3,h4⟩:=h k _ (aQ hk);exact⟨s,rfl,hs,by simp[World.cell?_setCell_same,h3],(World.frozen?_setCell _ _ _ _).trans h4⟩
 ·rw[Qc vI] at hx;obtain⟨s0,h1,h2,h3,h4⟩:=h j x hx;exact⟨s0,h1,h2,by rw[xQ _ _ _ _ (by simp <;> omega)];exact h3,(World.frozen?_setCell _ _ _ _).trans h4⟩
theorem fV.other{w:World}{B:Nat}{xs:List (List UInt8)}(h:fV w B xs){p:Addr}(hp:p.block≠B)(u:Value):fV (w.setCell p u) B xs:=λj x hx=>by
 obtain⟨s,h1,h2,h3,h4⟩:=h j x hx;exact⟨s,h1,h2,(xQ _ _ _ _ (λe=>hp (by rw[e]))).trans h3,(World.frozen?_setCell _ _ _ _).trans h4⟩
theorem fV.slr{w:World}{B:Nat}{xs:List (List UInt8)}(h:fV w B xs)(hB:B<w.heap.size)(hl:xs.length<=140737488355328):SlR RTx 1 w w.heap.size (.slice (some ⟨B,0,none⟩) xs.length xs.length) xs:=
 ⟨_,_,rfl,bQ _,hl,λj x hx=>by
  obtain⟨s,h1,h2,h3,_⟩:=h j x hx;refine⟨B,0,[.string s],rfl,hB,rfl,λi v hv=>?_,s,h1,h2,rfl⟩
  match i,hv with
  | 0,hv=>cases hv;simpa using h3⟩
theorem Lp{bs:List (List UInt8)}{n k:Nat}{b:List UInt8}(hn:bs.length=n)(hb:bs[k]?=some b):(bs.take k++List.replicate (n - k) []).set k b=bs.take (k+1)++List.replicate (n - (k+1)) []:=by
 obtain⟨hk,rfl⟩:=cQ.1 hb;have e:n - k=(n - (k+1))+1:=by omega
 rw[e,List.replicate_succ,List.set_append_right _ _ (by rw[List.length_take];omega),List.length_take,show k - min k bs.length=0 by omega,List.set_cons_zero,fQ hk,List.append_assoc];rfl
structure LayK(w:World)(M Bl Bs:Nat)(a:ByteArray)(v sl:Value)(kv:List (List UInt8×Value))(wr:World)(bs:List (List UInt8)):Prop where
 below:Below w.heap.size w wr
 b0:wr.cell? ⟨w.heap.size,0,none⟩=some (.string a)
 b1:wr.cell? ⟨w.heap.size,1,none⟩=some v
 r0:wr.cell? ⟨w.heap.size+1,0,none⟩=some (.string ⟨#[]⟩)
 r1:wr.cell? ⟨w.heap.size+1,1,none⟩=some (.slice none 0 0)
 r2:wr.cell? ⟨w.heap.size+1,2,none⟩=some (.slice none 0 0)
 l0:wr.cell? ⟨Bl,0,none⟩=some (.string a)
 l1:wr.cell? ⟨Bl,1,none⟩=some v
 l2:wr.cell? ⟨Bl,2,none⟩=some sl
 map:bR M kv wr
 row:fV wr Bs bs
 blt:Bl<wr.heap.size
 slt:Bs<wr.heap.size
 rf:∀ j,wr.frozen? ⟨w.heap.size+1,j,none⟩=false
structure LayB(n M Bl Bs:Nat):Prop where
 map:n+2=M
 lay:M<Bl
 row:M<Bs
 ne:Bl≠Bs
theorem LayK.keep{w:World}{M Bl Bs:Nat}{a:ByteArray}{v sl:Value}{kv:List (List UInt8×Value)}{wr wx:World}{bs:List (List UInt8)}(h:LayK w M Bl Bs a v sl kv wr bs)(hB:LayB w.heap.size M Bl Bs)(hb:Below wr.heap.size wr wx):LayK w M Bl Bs a v sl kv wx bs:=by
 have h1:=hB.map;have h2:=hB.lay;have h3:=h.blt;have h4:=h.slt;have h5:=h.map.lt;have ag:=hb.size;exact⟨h.below.trans (hb.mono h.below.size),(hb.cell (by simp <;> omega)).trans h.b0,(hb.cell (by simp <;> omega)).trans h.b1,(hb.cell (by simp <;> omega)).trans h.r0,(hb.cell (by simp <;> omega)).trans h.r1,(hb.cell (by simp <;> omega)).trans h.r2,
  (hb.cell (by simp <;> omega)).trans h.l0,(hb.cell (by simp <;> omega)).trans h.l1,(hb.cell (by simp <;> omega)).trans h.l2,h.map.keep hb h5,h.row.keep hb h4,by omega,by omega,λj=>(hb.frozen (by simp <;> omega)).trans (h.rf j)⟩
theorem bR.setCell{r:Nat}{kvs:List (List UInt8×Value)}{w:World}(h:bR r kvs w){p:Addr}(hp:p.block≠r)(u:Value):bR r kvs (w.setCell p u):=by
 obtain⟨es,c,h1,h2⟩:=h;exact⟨es,c,(wQ _ _ _ _ (λe=>hp e.symm)).trans h1,h2⟩
theorem LayK.store{w:World}{M Bl Bs:Nat}{a:ByteArray}{v sl:Value}{kv:List (List UInt8×Value)}{wr:World}{bs:List (List UInt8)}(h:LayK w M Bl Bs a v sl kv wr bs)(hB:LayB w.heap.size M Bl Bs){k:Nat}(hk:k<bs.length)(s:ByteArray)(hs:s.size<=140737488355328):LayK w M Bl Bs a v sl kv (wr.setCell ⟨Bs,k,none⟩ (.string s)) (bs.set k s.data.toList):=by
 have h1:=hB.map;have h2:=hB.lay;have h3:=hB.row;have h4:=hB.ne;exact⟨h.below.setCell (by simp <;> omega) _,(xQ _ _ _ _ (by simp <;> omega)).trans h.b0,(xQ _ _ _ _ (by simp <;> omega)).trans h.b1,(xQ _ _ _ _ (by simp <;> omega)).trans h.r0,(xQ _ _ _ _ (by simp <;> omega)).trans h.r1,(xQ _ _ _ _ (by simp <;> omega)).trans h.r2,
  (xQ _ _ _ _ (by simp <;> omega)).trans h.l0,(xQ _ _ _ _ (by simp <;> omega)).trans h.l1,(xQ _ _ _ _ (by simp <;> omega)).trans h.l2,h.map.setCell (by simp <;> omega) _,h.row.store hk s hs,by simpa using h.blt,by simpa using h.slt,λj=>(World.frozen?_setCell _ _ _ _).trans (h.rf j)⟩
def G9(w:World)(M Bl Bs:Nat)(a:ByteArray)(v sl:Value)(kv:List (List UInt8×Value))(B:List (List UInt8))(C:List UInt8->Bool)(l:List Np.Signed)(vc i:Value)(wr:World):Prop:=
 ∃ (k:Nat) (sc:ByteArray),k<=l.length/\i = .int .i64 k/\vc = .string sc/\sc.size<=140737488355328/\Hid (LayK w M Bl Bs a v sl kv wr (B.take k++List.replicate (l.length - k) []))/\Hid (sc.data.toList = []\/Np.aG sc.data.toList=true)/\Hid (B.drop k=Np.mp C sc.data.toList (l.drop k))
def LayA(M:Nat)(w1:World)(a:List UInt8)(l:List Np.Signed)(i:Value)(wr:World):Prop:=
 ∃ k:Nat,k<=l.length/\i = .int .i64 k/\Hid (Below M w1 wr)/\Hid (bR M (eD a (l.take k)) wr)
theorem UY(a:ByteArray)(v:Value)(l:List Np.Signed)(dG:l.length<=20000)(hv:∀ x∈l,Np.aG x.set.name=true)(hs:Np.qy l)(w:World)(hd:SlR cU 5 w w.heap.size v l) :
 Calls prog 200 #[.agg #[.string a,v]] w λe w'=>(∃ bv,e = .returned (.agg #[.string a,v,bv])/\SlR RTx 1 w' w'.heap.size bv (Np.gB ⟨a.data.toList,l⟩))/\Below w.heap.size w w':=by
 obtain⟨B,zt⟩:=abY (Np.gB ⟨a.data.toList,l⟩);rw[zt];have dN:=jq zt;have fE:Hid (B.length=l.length):=jq (by rw[<-zt];exact Np.C8 _);clear zt;have HV:=jq hv;have HS:=jq hs;have HD:=jq hd;obtain⟨A,c,rfl,aT,cu⟩:=ar hd;clear hv hs hd;have sO:∀ (w:World),(Instr.makeMap 111 none).run prog w = .ok (.map (some w.heap.size)) (w.alloc (.map #[] 0)):=λw=>by
  simp[Instr.makeMap,Result.andThen]
 have HW:Hid (∀ o o' o'',Below w.heap.size w (((w.alloc o).alloc o').alloc o'')):=jq (λo o' o''=>(((vQ _ w).alloc (bQ _) _).alloc (by simp) _).alloc (by simp;omega) _);go_enter func200,ntmps200;go_wp2_with fail;obtain⟨w1,am⟩:=abY (((w.alloc (.cells #[.string a,.slice A l.length c] 263)).alloc (.cells #[.string ⟨#[]⟩,.slice none 0 0,.slice none 0 0] 265)).alloc (.map #[] 0));have c0:w1.cell? ⟨w.heap.size,0,none⟩=some (.string a):=by rw[<-am];simp[go_sem]
 have c1:w1.cell? ⟨w.heap.size,1,none⟩=some (.slice A l.length c):=by rw[<-am];simp[go_sem]
 have e0:w1.cell? ⟨w.heap.size+1,0,none⟩=some (.string ⟨#[]⟩):=by rw[<-am];simp[go_sem]
 have e1:w1.cell? ⟨w.heap.size+1,1,none⟩=some (.slice none 0 0):=by rw[<-am];simp[go_sem]
 have e2:w1.cell? ⟨w.heap.size+1,2,none⟩=some (.slice none 0 0):=by rw[<-am];simp[go_sem]
 have cP:w1.heap.size=w.heap.size+3:=by rw[<-am];simp
 have Gm:Hid (bR (w.heap.size+1+1) [] w1):=jq (by
  have:=bR.made ((w.alloc (.cells #[.string a,.slice A l.length c] 263)).alloc (.cells #[.string ⟨#[]⟩,.slice none 0 0,.slice none 0 0] 265))
  rw[<-am];simpa using this)
 have aD:Hid (Below w.heap.size w w1):=jq (by rw[<-am];exact HW.out _ _ _);have NN:Hid (∀ j,w1.frozen? ⟨w.heap.size+1,j,none⟩=false):=jq (λj=>by rw[<-am];simp[go_sem]);have HC:=jq (And.intro c0 (And.intro c1 (And.intro e0 (And.intro e1 e2))));rw[am];clear am c0 c1 e0 e1 e2;obtain⟨M,hM⟩:=abY (w.heap.size+1+1);rw[hM] at Gm |-;go_loopw [18] (λi wr=>LayA M w1 a.data.toList l i wr) (λi _=>l.length - (intOf i).toNat)
 case atStart=>exact⟨0,jQ _,rfl,jq (vQ _ _),Gm⟩
 case round=>
  obtain⟨k,hk,rfl,HB,HM⟩:=hrel;have ag:=HB.out.size;obtain⟨c0,c1,e0,e1,e2⟩:=HC.out;have d0:wr.cell? ⟨w.heap.size,0,none⟩=some (.string a):=by rw[HB.out.cell (by simp;omega)];exact c0
  have d1:wr.cell? ⟨w.heap.size,1,none⟩=some (.slice A l.length c):=by rw[HB.out.cell (by simp;omega)];exact c1
  have mx:=HM.out.lt;have cg:w.heap.size<wr.heap.size:=by omega
  have bp:Hid (Below w.heap.size w wr):=aaK aD HB.out;have NU:Hid (∀ j,wr.frozen? ⟨w.heap.size+1,j,none⟩=false):=jq (λj=>(HB.out.frozen (p:=⟨w.heap.size+1,j,none⟩) (by dsimp only;omega)).trans (NN.out j));have ud:Hid (wr.cell? ⟨w.heap.size+1,0,none⟩=some (.string ⟨#[]⟩)/\wr.cell? ⟨w.heap.size+1,1,none⟩=some (.slice none 0 0)/\wr.cell? ⟨w.heap.size+1,2,none⟩=some (.slice none 0 0)):=jq ⟨(HB.out.cell (by dsimp only;omega)).trans e0,(HB.out.cell (by dsimp only;omega)).trans e1,(HB.out.cell (by dsimp only;omega)).trans e2⟩;clear c0 c1 e0 e1 e2;by_cases aa:k<l.length
  ·have ac:=aQ aa;obtain⟨b,o,c',sn,dv,sv,hA,du,_,aP,eT,be,aY,f0,f1,f2,f3,f4⟩:=iV (HD.out.keep da bp.out) ac
   cases hA
   have ht:l.take (k+1)=l.take k ++ [l[k]]:=fQ aa;have OD:Hid (l[k].set.type=2->(eD a.data.toList (l.take k)).lookup sn.data.toList=none):=jq (λh2=>by
    refine (ze _ _ _).2 λy hy h3 he=>?_;obtain⟨j,hj,rfl⟩:=nQ.1 hy;rw[List.length_take] at hj;have h4:=E6 HS.out (aQ (show j<l.length by omega)) ac (by omega);rw[List.getElem_take] at h3 he;have h5:Np.cX l[j].set=Np.cX l[k].set:=by unfold Np.cX;rw[h3,h2,he,aP]
    rw[h5,Np.tK.self] at h4;omega)
   have HT:Hid (∀ kv,(if l[k].set.type=2/\l[k].set.name≠a.data.toList then eD a.data.toList (l.take k) ++ [(l[k].set.name,.bool true)] else eD a.data.toList (l.take k))=kv->eD a.data.toList (l.take (k+1))=kv):=jq (λkv h=>by rw[ht,Qr];exact h);generalize hx:l[k]=x at *;clear hx ht;obtain⟨Ad,cd,rfl,_,_⟩:=ar be;obtain⟨As,cs,rfl,_,_⟩:=ar aY;have cK:=jq aP;have fS:Hid (∀ o,Below wr.heap.size wr (wr.alloc o)):=jq (λo=>(vQ _ _).alloc (bQ _) _);have ca:Hid (∀ o,Below M w1 (wr.alloc o)):=jq (λo=>HB.out.alloc (by omega) _);clear ac aP be aY;by_cases h2:x.set.type=2
   ·have ab:(x.set.type == 2)=true:=by simpa using h2
    by_cases hn:x.set.name=a.data.toList
    ·have pa:(!sn.toList == a.toList)=false:=by rw[dQ,dQ,cK.out,hn];simp
     have ui:=jq (HT.out _ (Qc λh=>h.2 hn));clear h2 hn;go_wp2_with fail;go_roundw
     case rel=>exact⟨k+1,by omega,by go_num,jq (ca.out _),jq (by rw[ui.out];exact HM.out.keep (fS.out _) mx)⟩
     case measure=>simp[intOf] <;> omega
    ·have pa:(!sn.toList == a.toList)=true:=by rw[dQ,dQ,cK.out];simpa using hn
     have ui:=jq (HT.out _ (Qb ⟨h2,hn⟩));have oK:=jq (OD.out h2);clear h2 hn;go_wp2_with (at_mapUpdate;refine Mk _ rfl _ _ _ 111 rfl 9 4 underlying111 underlying9 M (eD a.data.toList (l.take k)) rfl (HM.out.keep (fS.out _) mx) sn.data.toList rfl (.bool true) rfl oK.out ?_;intro w5 jI jn;have H5:=jq (And.intro jI jn);clear jI jn);go_roundw
     case rel=>exact⟨k+1,by omega,by go_num,jq ((ca.out _).trans (H5.out.2.below (bQ _))),jq (by rw[ui.out,<-cK.out];exact H5.out.1)⟩
     case measure=>simp[intOf] <;> omega
   ·have ab:(x.set.type == 2)=false:=by simpa using h2
    have ui:=jq (HT.out _ (Qc λh=>h2 h.1));clear h2;go_wp2_with fail;go_roundw
    case rel=>exact⟨k+1,by omega,by go_num,jq (ca.out _),jq (by rw[ui.out];exact HM.out.keep (fS.out _) mx)⟩
    case measure=>simp[intOf] <;> omega
  ·have kP:k=l.length:=by omega
   subst kP;rw[List.take_length] at HM;go_wp2_with fail;have f9:=KE l.length dG;have HZ:Hid (∀ j,j<l.length->(madeCells #[Value.string ⟨#[]⟩] l.length)[j]?=some (.string ⟨#[]⟩)):=jq (λj hj=>KD _ _ hj);generalize madeCells #[Value.string ⟨#[]⟩] l.length=Z at f9 HZ;have yj:=jq (And.intro d0 d1);have yB:Hid (∀ (Bl Bs:Nat) (w5:World),Below wr.heap.size wr w5->M<Bl->M<Bs->Bl≠Bs->Bl<w5.heap.size->Bs<w5.heap.size->w5.cell? ⟨Bl,0,none⟩=some (.string a)->w5.cell? ⟨Bl,1,none⟩=some (.slice A l.length c)->w5.cell? ⟨Bl,2,none⟩=some (.slice (some ⟨Bs,0,none⟩) l.length l.length)->(∀ j,j<l.length->w5.cell? ⟨Bs,j,none⟩=some (.string ⟨#[]⟩))->(∀ j,w5.frozen? ⟨Bs,j,none⟩=false)->
    LayB w.heap.size M Bl Bs/\LayK w M Bl Bs a (.slice A l.length c) (.slice (some ⟨Bs,0,none⟩) l.length l.length) (eD a.data.toList l) w5 (List.replicate l.length [])):=jq (λBl Bs w5 hb h1 h2 h3 h4 h5 k0 k1 k2 hz qN=>by
    refine⟨⟨by omega,h1,h2,h3⟩,bp.out.trans (hb.acJ),(hb.cell (by dsimp only;omega)).trans yj.out.1,(hb.cell (by dsimp only;omega)).trans yj.out.2,(hb.cell (by dsimp only;omega)).trans ud.out.1,(hb.cell (by dsimp only;omega)).trans ud.out.2.1,(hb.cell (by dsimp only;omega)).trans ud.out.2.2,k0,k1,k2,HM.out.keep hb mx,λj x hx=>?_,h4,h5,λj=>(hb.frozen (by dsimp only;omega)).trans (NU.out j)⟩;rw[List.getElem?_replicate] at hx;split at hx
    ·rename_i hj
     cases hx
     exact⟨⟨#[]⟩,rfl,by decide,hz j hj,qN j⟩
    ·cases hx)
   go_region
   ·obtain⟨w5,aB⟩:=abY (((wr.alloc (.cells Z 9)).alloc (.cells #[.string a,.slice A l.length c,.slice (some ⟨wr.heap.size,0,none⟩) l.length l.length] 265)).drew);have aA:Below wr.heap.size wr w5:=by rw[<-aB];exact (((vQ _ _).alloc (bQ _) _).alloc (by simp) _).drew
    have hp:=yB.out (wr.heap.size+1) wr.heap.size w5 aA (by omega) (by omega) (by omega) (by rw[<-aB];simp) (by rw[<-aB];simp;omega) (by rw[<-aB];simp[go_sem]) (by rw[<-aB];simp[go_sem]) (by rw[<-aB];simp[go_sem]) (λj hj=>by rw[<-aB];simp[go_sem];exact HZ.out j hj) (λj=>by rw[<-aB];simp[go_sem]);rw[aB];obtain⟨uR,uS⟩:=hp;have gR:=jq uR;have nk:=jq uS;clear aB aA uR uS f9 yB HZ ud yj HB bp d0 d1;generalize wr.heap.size+1=X1 at *;generalize wr.heap.size=X0 at *;have c50:=nk.out.b0;have c51:=nk.out.b1;go_wp2_with fail;clear c50 c51;go_loopw [7,51] (λvc i wr=>G9 w M X1 X0 a (.slice A l.length c) (.slice (some ⟨X0,0,none⟩) l.length l.length) (eD a.data.toList l) B (Np.dT ⟨a.data.toList,l⟩) l vc i wr) (λ_ i _=>l.length - (intOf i).toNat)
    case atStart=>exact⟨0,⟨#[]⟩,jQ _,rfl,rfl,by decide,jq nk.out,jq (.inl rfl),jq (by rw[<-dN.out];rfl)⟩
    case round=>
     obtain⟨k,sc,hk,rfl,rfl,mF,HK,CM,HE⟩:=hrel;have iO:=HK.out.l2;have bC:=HK.out.blt;have vl:=HK.out.slt;have mx:=HK.out.map.lt;have ki:=HK.out.below.size;by_cases aa:k<l.length
     ·have ac:=aQ aa;obtain⟨b,o,c',sn,dv,sv,hA,du,_,aP,eT,be,aY,f0,f1,f2,f3,f4⟩:=iV (HD.out.keep da HK.out.below) ac
      cases hA
      have iZ:Hid (Np.aG sn.data.toList=true):=jq (by rw[aP];exact HV.out _ (List.getElem_mem aa));have dP:Hid (B[k]?=some (Np.dy (Np.dT ⟨a.data.toList,l⟩) sc.data.toList sn.data.toList)/\B.drop (k+1)=Np.mp (Np.dT ⟨a.data.toList,l⟩) (Np.dy (Np.dT ⟨a.data.toList,l⟩) sc.data.toList sn.data.toList) (l.drop (k+1))):=jq (by
       have h1:=HE.out;rw[sQ aa,Np.mp,<-aP] at h1;refine⟨?_,?_⟩
       ·have:=List.getElem?_drop (xs:=B) (i:=k) (j:=0)
        rw[h1,Nat.add_zero] at this;exact this.symm
       ·have:=Qd (List.drop 1) h1
        rw[List.drop_drop] at this;simpa using this)
      obtain⟨s0,_,_,wu,nK⟩:=HK.out.row k [] (by
       rw[oQ (by rw[List.length_take];omega),List.length_take,fE.out,show k - min k l.length=0 by omega,List.getElem?_replicate,Qb (by omega)])
      have iC:Hid (∀ (wx:World) (s:ByteArray),Below wr.heap.size wr wx->s.size<=140737488355328->s.data.toList=Np.dy (Np.dT ⟨a.data.toList,l⟩) sc.data.toList sn.data.toList->LayK w M X1 X0 a (.slice (some ⟨b,o,none⟩) l.length c) (.slice (some ⟨X0,0,none⟩) l.length l.length) (eD a.data.toList l) (wx.setCell ⟨X0,k,none⟩ (.string s)) (B.take (k+1)++List.replicate (l.length - (k+1)) [])):=jq (λwx s hb ag hs=>by
       rw[<-Lp fE.out dP.out.1,<-hs];exact (HK.out.keep gR.out hb).store gR.out (by rw[List.length_append,List.length_take,List.length_replicate,fE.out];omega) s ag)
      have Cp:=jq HK.out.map;have fS:Hid (∀ o,Below wr.heap.size wr (wr.alloc o)):=jq (λo=>(vQ _ _).alloc (bQ _) _);generalize hx:l[k]=x at *;clear hx ac;obtain⟨Ad,cd,rfl,_,_⟩:=ar be;obtain⟨As,cs,rfl,_,_⟩:=ar aY;clear aP be aY;have cN:(0:Int)<=(k:Int):=by omega
      have cO:(k:Int)<(l.length:Int):=by omega
      obtain⟨cb,jg⟩:=abY (Np.dT ⟨a.data.toList,l⟩ sn.data.toList);have kr:=jq jg;have nw:Hid (((eD a.data.toList l).lookup sn.data.toList).getD (.bool false) = .bool cb):=jq (by rw[<-jg];exact (ze _ _ l).1);clear jg;have qf:Hid (∀ wx,Below wr.heap.size wr wx->Sem.run prog (Instr.lookup 111 (.map (some M)) (.string sn) false) wx = .ok (.bool cb) wx):=jq (λwx hb=>by
       have:=Br (P:=prog) wx 111 9 4 underlying111 underlying9 M (eD a.data.toList l) (Cp.out.keep hb mx) sn.data.toList (.bool false) (by kernel_rfl)
       rw[nw.out] at this;exact this)
      by_cases hce:sc.data.toList = []
      ·obtain rfl:sc=⟨#[]⟩:=mY hce;have ee:Hid (cb=true->sn.data.toList=Np.dy (Np.dT ⟨a.data.toList,l⟩) [] sn.data.toList):=jq (λh=>by
        unfold Np.dy;rw[kr.out,h];simp)
       have iE:Hid (cb=false->[]=Np.dy (Np.dT ⟨a.data.toList,l⟩) [] sn.data.toList):=jq (λh=>by
        unfold Np.dy;rw[kr.out,h];simp)
       clear hce
       cases cb with
       | true=>
        have fK:∀ o,Sem.run prog (Instr.lookup 111 (.map (some M)) (.string sn) false) (wr.alloc o) = .ok (.bool true) (wr.alloc o):=λo=>qf.out _ (fS.out o);go_wp2_with fail;go_roundw
        case rel=>exact⟨k+1,sn,by omega,by go_num,rfl,eT,jq ((iC.out wr sn (vQ _ _) eT (ee.out (by simp))).keep gR.out ((vQ _ _).alloc (bQ _) _)),jq (.inr iZ.out),jq (by rw[ee.out (by simp)];exact dP.out.2)⟩
        case measure=>simp[intOf] <;> omega
       | false=>
        have fK:∀ o,Sem.run prog (Instr.lookup 111 (.map (some M)) (.string sn) false) (wr.alloc o) = .ok (.bool false) (wr.alloc o):=λo=>qf.out _ (fS.out o);go_wp2_with fail;go_roundw
        case rel=>exact⟨k+1,⟨#[]⟩,by omega,by go_num,rfl,by decide,jq ((iC.out wr ⟨#[]⟩ (vQ _ _) (by decide) (iE.out (by simp))).keep gR.out ((vQ _ _).alloc (bQ _) _)),jq (.inl rfl),jq (by rw[show (⟨#[]⟩:ByteArray).data.toList = [] from rfl,iE.out (by simp)];exact dP.out.2)⟩
        case measure=>simp[intOf] <;> omega
      ·have Td:(!sc.toList == [])=true:=by rw[dQ];simpa using hce
       have Ej:(sc.toList == [])=false:=by rw[dQ];simpa using hce
       have lz:Hid (Np.aG sc.data.toList=true):=jq (CM.out.resolve_left hce);have nm:=jq hce;have RL:M<wr.heap.size:=mx;clear hce;go_wp2_with fail;refine (BD sn sc eT mF _ iZ.out lz.out).mono ?_;rintro e w2 ⟨rfl,ab⟩;have ai:=jq ((fS.out _).trans (ab.mono (by simp)));have fZ:w2.cell? ⟨X1,2,none⟩=some (.slice (some ⟨X0,0,none⟩) l.length l.length):=aaJ ai.out iO;have fj:w2.cell? ⟨X0,k,none⟩=some (.string s0):=aaJ ai.out wu;have aC:=ai.out.size;have D9:w2.frozen? ⟨X0,k,none⟩=false:=(ai.out.frozen (by dsimp only;omega)).trans nK;clear ab iO wu nK
       cases fk:Np.dm sn.data.toList sc.data.toList with
       | true=>
        have ee:Hid (sc.data.toList=Np.dy (Np.dT ⟨a.data.toList,l⟩) sc.data.toList sn.data.toList):=jq (by
         unfold Np.dy;simp[nm.out,fk])
        clear fk;go_wp2_with fail;go_roundw
        case rel=>exact⟨k+1,sc,by omega,by go_num,rfl,mF,jq (iC.out _ sc ai.out mF ee.out),jq (.inr lz.out),jq (by rw[ee.out];exact dP.out.2)⟩
        case measure=>simp[intOf] <;> omega
       | false=>
        have ee:Hid (cb=true->sn.data.toList=Np.dy (Np.dT ⟨a.data.toList,l⟩) sc.data.toList sn.data.toList):=jq (λh=>by
         unfold Np.dy;rw[kr.out,h];simp[fk,nm.out])
        have iE:Hid (cb=false->[]=Np.dy (Np.dT ⟨a.data.toList,l⟩) sc.data.toList sn.data.toList):=jq (λh=>by
         unfold Np.dy;rw[kr.out,h];simp[fk,nm.out])
        clear fk;have fK:=qf.out w2 ai.out
        cases cb with
        | true=>
         go_wp2_with fail;go_roundw
         case rel=>exact⟨k+1,sn,by omega,by go_num,rfl,eT,jq (iC.out _ sn ai.out eT (ee.out (by simp))),jq (.inr iZ.out),jq (by rw[ee.out (by simp)];exact dP.out.2)⟩
         case measure=>simp[intOf] <;> omega
        | false=>
         go_wp2_with fail;go_roundw
         case rel=>exact⟨k+1,⟨#[]⟩,by omega,by go_num,rfl,by decide,jq (iC.out _ ⟨#[]⟩ ai.out (by decide) (iE.out (by simp))),jq (.inl rfl),jq (by rw[show (⟨#[]⟩:ByteArray).data.toList = [] from rfl,iE.out (by simp)];exact dP.out.2)⟩
         case measure=>simp[intOf] <;> omega
     ·have vJ:k=l.length:=by omega
      have B7:Hid (B.take k++List.replicate (l.length - k) []=B):=jq (by rw[vJ,Nat.sub_self,List.replicate_zero,List.append_nil,kQ (by rw[fE.out];exact bQ _)]);clear vJ;have g0:=HK.out.l0;have g1:=HK.out.l1;have r0:=HK.out.r0;have r1:=HK.out.r1;have r2:=HK.out.r2;have rf0:=HK.out.rf 0;have rf1:=HK.out.rf 1;have rf2:=HK.out.rf 2;go_wp2_with fail;obtain⟨w6,bB⟩:=abY (((wr.setCell ⟨w.heap.size+1,0,none⟩ (.string a)).setCell ⟨w.heap.size+1,1,none⟩ (.slice A l.length c)).setCell ⟨w.heap.size+1,2,none⟩ (.slice (some ⟨X0,0,none⟩) l.length l.length));have q0:w6.cell? ⟨w.heap.size+1,0,none⟩=some (.string a):=by rw[<-bB];simp[go_sem,r0]
      have q1:w6.cell? ⟨w.heap.size+1,1,none⟩=some (.slice A l.length c):=by rw[<-bB];simp[go_sem,r1]
      have q2:w6.cell? ⟨w.heap.size+1,2,none⟩=some (.slice (some ⟨X0,0,none⟩) l.length l.length):=by rw[<-bB];simp[go_sem,r2]
      have h1:=gR.out.map;have h2:=gR.out.row;have dB:Hid (Below w.heap.size w w6):=jq (by rw[<-bB];exact ((HK.out.below.setCell (by simp) _).setCell (by simp) _).setCell (by simp) _);have uv:Hid (SlR RTx 1 w6 w6.heap.size (.slice (some ⟨X0,0,none⟩) l.length l.length) B):=jq (by
       have h3:=HK.out.row;rw[B7.out] at h3;have h4:=((h3.other (p:=⟨w.heap.size+1,0,none⟩) (by simp;omega) (.string a)).other (p:=⟨w.heap.size+1,1,none⟩) (by simp;omega) (.slice A l.length c)).other (p:=⟨w.heap.size+1,2,none⟩) (by simp;omega) (.slice (some ⟨X0,0,none⟩) l.length l.length);rw[bB] at h4;have h5:=h4.slr (by rw[<-bB];simp;omega) (by rw[fE.out];omega);rw[fE.out] at h5;exact h5)
      rw[bB];clear bB r0 r1 r2 rf0 rf1 rf2 g0 g1 iO;refine bodyPost_ret (v:=.agg #[.string a,.slice A l.length c,.slice (some ⟨X0,0,none⟩) l.length l.length]) ?_ rfl ⟨⟨_,rfl,uv.out⟩,dB.out⟩;simp[results,results200,go_sem,q0,q1,q2]
   ·obtain⟨w5,aB⟩:=abY (((wr.alloc (.cells #[.string a,.slice A l.length c,.slice (some ⟨wr.heap.size+1,0,none⟩) l.length l.length] 265)).alloc (.cells Z 9)).drew);have aA:Below wr.heap.size wr w5:=by rw[<-aB];exact (((vQ _ _).alloc (bQ _) _).alloc (by simp) _).drew
    have hp:=yB.out wr.heap.size (wr.heap.size+1) w5 aA (by omega) (by omega) (by omega) (by rw[<-aB];simp;omega) (by rw[<-aB];simp) (by rw[<-aB];simp[go_sem]) (by rw[<-aB];simp[go_sem]) (by rw[<-aB];simp[go_sem]) (λj hj=>by rw[<-aB];simp[go_sem];exact HZ.out j hj) (λj=>by rw[<-aB];simp[go_sem]);rw[aB];obtain⟨uR,uS⟩:=hp;have gR:=jq uR;have nk:=jq uS;clear aB aA uR uS f9 yB HZ ud yj HB bp d0 d1;generalize wr.heap.size+1=X0 at *;generalize wr.heap.size=X1 at *;have c50:=nk.out.b0;have c51:=nk.out.b1;go_wp2_with fail;clear c50 c51;go_loopw [7,51] (λvc i wr=>G9 w M X1 X0 a (.slice A l.length c) (.slice (some ⟨X0,0,none⟩) l.length l.length) (eD a.data.toList l) B (Np.dT ⟨a.data.toList,l⟩) l vc i wr) (λ_ i _=>l.length - (intOf i).toNat)
    case atStart=>exact⟨0,⟨#[]⟩,jQ _,rfl,rfl,by decide,jq nk.out,jq (.inl rfl),jq (by rw[<-dN.out];rfl)⟩
    case round=>
     obtain⟨k,sc,hk,rfl,rfl,mF,HK,CM,HE⟩:=hrel;have iO:=HK.out.l2;have bC:=HK.out.blt;have vl:=HK.out.slt;have mx:=HK.out.map.lt;have ki:=HK.out.below.size;by_cases aa:k<l.length
     ·have ac:=aQ aa;obtain⟨b,o,c',sn,dv,sv,hA,du,_,aP,eT,be,aY,f0,f1,f2,f3,f4⟩:=iV (HD.out.keep da HK.out.below) ac
      cases hA
      have iZ:Hid (Np.aG sn.data.toList=true):=jq (by rw[aP];exact HV.out _ (List.getElem_mem aa));have dP:Hid (B[k]?=some (Np.dy (Np.dT ⟨a.data.toList,l⟩) sc.data.toList sn.data.toList)/\B.drop (k+1)=Np.mp (Np.dT ⟨a.data.toList,l⟩) (Np.dy (Np.dT ⟨a.data.toList,l⟩) sc.data.toList sn.data.toList) (l.drop (k+1))):=jq (by
       have h1:=HE.out;rw[sQ aa,Np.mp,<-aP] at h1;refine⟨?_,?_⟩
       ·have:=List.getElem?_drop (xs:=B) (i:=k) (j:=0)
        rw[h1,Nat.add_zero] at this;exact this.symm
       ·have:=Qd (List.drop 1) h1
        rw[List.drop_drop] at this;simpa using this)
      obtain⟨s0,_,_,wu,nK⟩:=HK.out.row k [] (by
       rw[oQ (by rw[List.length_take];omega),List.length_take,fE.out,show k - min k l.length=0 by omega,List.getElem?_replicate,Qb (by omega)])
      have iC:Hid (∀ (wx:World) (s:ByteArray),Below wr.heap.size wr wx->s.size<=140737488355328->s.data.toList=Np.dy (Np.dT ⟨a.data.toList,l⟩) sc.data.toList sn.data.toList->LayK w M X1 X0 a (.slice (some ⟨b,o,none⟩) l.length c) (.slice (some ⟨X0,0,none⟩) l.length l.length) (eD a.data.toList l) (wx.setCell ⟨X0,k,none⟩ (.string s)) (B.take (k+1)++List.replicate (l.length - (k+1)) [])):=jq (λwx s hb ag hs=>by
       rw[<-Lp fE.out dP.out.1,<-hs];exact (HK.out.keep gR.out hb).store gR.out (by rw[List.length_append,List.length_take,List.length_replicate,fE.out];omega) s ag)
      have Cp:=jq HK.out.map;have fS:Hid (∀ o,Below wr.heap.size wr (wr.alloc o)):=jq (λo=>(vQ _ _).alloc (bQ _) _);generalize hx:l[k]=x at *;clear hx ac;obtain⟨Ad,cd,rfl,_,_⟩:=ar be;obtain⟨As,cs,rfl,_,_⟩:=ar aY;clear aP be aY;have cN:(0:Int)<=(k:Int):=by omega
      have cO:(k:Int)<(l.length:Int):=by omega
      obtain⟨cb,jg⟩:=abY (Np.dT ⟨a.data.toList,l⟩ sn.data.toList);have kr:=jq jg;have nw:Hid (((eD a.data.toList l).lookup sn.data.toList).getD (.bool false) = .bool cb):=jq (by rw[<-jg];exact (ze _ _ l).1);clear jg;have qf:Hid (∀ wx,Below wr.heap.size wr wx->Sem.run prog (Instr.lookup 111 (.map (some M)) (.string sn) false) wx = .ok (.bool cb) wx):=jq (λwx hb=>by
       have:=Br (P:=prog) wx 111 9 4 underlying111 underlying9 M (eD a.data.toList l) (Cp.out.keep hb mx) sn.data.toList (.bool false) (by kernel_rfl)
       rw[nw.out] at this;exact this)
      by_cases hce:sc.data.toList = []
      ·obtain rfl:sc=⟨#[]⟩:=mY hce;have ee:Hid (cb=true->sn.data.toList=Np.dy (Np.dT ⟨a.data.toList,l⟩) [] sn.data.toList):=jq (λh=>by
        unfold Np.dy;rw[kr.out,h];simp)
       have iE:Hid (cb=false->[]=Np.dy (Np.dT ⟨a.data.toList,l⟩) [] sn.data.toList):=jq (λh=>by
        unfold Np.dy;rw[kr.out,h];simp)
       clear hce
       cases cb with
       | true=>
        have fK:∀ o,Sem.run prog (Instr.lookup 111 (.map (some M)) (.string sn) false) (wr.alloc o) = .ok (.bool true) (wr.alloc o):=λo=>qf.out _ (fS.out o);go_wp2_with fail;go_roundw
        case rel=>exact⟨k+1,sn,by omega,by go_num,rfl,eT,jq ((iC.out wr sn (vQ _ _) eT (ee.out (by simp))).keep gR.out ((vQ _ _).alloc (bQ _) _)),jq (.inr iZ.out),jq (by rw[ee.out (by simp)];exact dP.out.2)⟩
        case measure=>simp[intOf] <;> omega
       | false=>
        have fK:∀ o,Sem.run prog (Instr.lookup 111 (.map (some M)) (.string sn) false) (wr.alloc o) = .ok (.bool false) (wr.alloc o):=λo=>qf.out _ (fS.out o);go_wp2_with fail;go_roundw
        case rel=>exact⟨k+1,⟨#[]⟩,by omega,by go_num,rfl,by decide,jq ((iC.out wr ⟨#[]⟩ (vQ _ _) (by decide) (iE.out (by simp))).keep gR.out ((vQ _ _).alloc (bQ _) _)),jq (.inl rfl),jq (by rw[show (⟨#[]⟩:ByteArray).data.toList = [] from rfl,iE.out (by simp)];exact dP.out.2)⟩
        case measure=>simp[intOf] <;> omega
      ·have Td:(!sc.toList == [])=true:=by rw[dQ];simpa using hce
       have Ej:(sc.toList == [])=false:=by rw[dQ];simpa using hce
       have lz:Hid (Np.aG sc.data.toList=true):=jq (CM.out.resolve_left hce);have nm:=jq hce;have RL:M<wr.heap.size:=mx;clear hce;go_wp2_with fail;refine (BD sn sc eT mF _ iZ.out lz.out).mono ?_;rintro e w2 ⟨rfl,ab⟩;have ai:=jq ((fS.out _).trans (ab.mono (by simp)));have fZ:w2.cell? ⟨X1,2,none⟩=some (.slice (some ⟨X0,0,none⟩) l.length l.length):=aaJ ai.out iO;have fj:w2.cell? ⟨X0,k,none⟩=some (.string s0):=aaJ ai.out wu;have aC:=ai.out.size;have D9:w2.frozen? ⟨X0,k,none⟩=false:=(ai.out.frozen (by dsimp only;omega)).trans nK;clear ab iO wu nK
       cases fk:Np.dm sn.data.toList sc.data.toList with
       | true=>
        have ee:Hid (sc.data.toList=Np.dy (Np.dT ⟨a.data.toList,l⟩) sc.data.toList sn.data.toList):=jq (by
         unfold Np.dy;simp[nm.out,fk])
        clear fk;go_wp2_with fail;go_roundw
        case rel=>exact⟨k+1,sc,by omega,by go_num,rfl,mF,jq (iC.out _ sc ai.out mF ee.out),jq (.inr lz.out),jq (by rw[ee.out];exact dP.out.2)⟩
        case measure=>simp[intOf] <;> omega
       | false=>
        have ee:Hid (cb=true->sn.data.toList=Np.dy (Np.dT ⟨a.data.toList,l⟩) sc.data.toList sn.data.toList):=jq (λh=>by
         unfold Np.dy;rw[kr.out,h];simp[fk,nm.out])
        have iE:Hid (cb=false->[]=Np.dy (Np.dT ⟨a.data.toList,l⟩) sc.data.toList sn.data.toList):=jq (λh=>by
         unfold Np.dy;rw[kr.out,h];simp[fk,nm.out])
        clear fk;have fK:=qf.out w2 ai.out
        cases cb with
        | true=>
         go_wp2_with fail;go_roundw
         case rel=>exact⟨k+1,sn,by omega,by go_num,rfl,eT,jq (iC.out _ sn ai.out eT (ee.out (by simp))),jq (.inr iZ.out),jq (by rw[ee.out (by simp)];exact dP.out.2)⟩
         case measure=>simp[intOf] <;> omega
        | false=>
         go_wp2_with fail;go_roundw
         case rel=>exact⟨k+1,⟨#[]⟩,by omega,by go_num,rfl,by decide,jq (iC.out _ ⟨#[]⟩ ai.out (by decide) (iE.out (by simp))),jq (.inl rfl),jq (by rw[show (⟨#[]⟩:ByteArray).data.toList = [] from rfl,iE.out (by simp)];exact dP.out.2)⟩
         case measure=>simp[intOf] <;> omega
     ·have vJ:k=l.length:=by omega
      have B7:Hid (B.take k++List.replicate (l.length - k) []=B):=jq (by rw[vJ,Nat.sub_self,List.replicate_zero,List.append_nil,kQ (by rw[fE.out];exact bQ _)]);clear vJ;have g0:=HK.out.l0;have g1:=HK.out.l1;have r0:=HK.out.r0;have r1:=HK.out.r1;have r2:=HK.out.r2;have rf0:=HK.out.rf 0;have rf1:=HK.out.rf 1;have rf2:=HK.out.rf 2;go_wp2_with fail;obtain⟨w6,bB⟩:=abY (((wr.setCell ⟨w.heap.size+1,0,none⟩ (.string a)).setCell ⟨w.heap.size+1,1,none⟩ (.slice A l.length c)).setCell ⟨w.heap.size+1,2,none⟩ (.slice (some ⟨X0,0,none⟩) l.length l.length));have q0:w6.cell? ⟨w.heap.size+1,0,none⟩=some (.string a):=by rw[<-bB];simp[go_sem,r0]
      have q1:w6.cell? ⟨w.heap.size+1,1,none⟩=some (.slice A l.length c):=by rw[<-bB];simp[go_sem,r1]
      have q2:w6.cell? ⟨w.heap.size+1,2,none⟩=some (.slice (some ⟨X0,0,none⟩) l.length l.length):=by rw[<-bB];simp[go_sem,r2]
      have h1:=gR.out.map;have h2:=gR.out.row;have dB:Hid (Below w.heap.size w w6):=jq (by rw[<-bB];exact ((HK.out.below.setCell (by simp) _).setCell (by simp) _).setCell (by simp) _);have uv:Hid (SlR RTx 1 w6 w6.heap.size (.slice (some ⟨X0,0,none⟩) l.length l.length) B):=jq (by
       have h3:=HK.out.row;rw[B7.out] at h3;have h4:=((h3.other (p:=⟨w.heap.size+1,0,none⟩) (by simp;omega) (.string a)).other (p:=⟨w.heap.size+1,1,none⟩) (by simp;omega) (.slice A l.length c)).other (p:=⟨w.heap.size+1,2,none⟩) (by simp;omega) (.slice (some ⟨X0,0,none⟩) l.length l.length);rw[bB] at h4;have h5:=h4.slr (by rw[<-bB];simp;omega) (by rw[fE.out];omega);rw[fE.out] at h5;exact h5)
      rw[bB];clear bB r0 r1 r2 rf0 rf1 rf2 g0 g1 iO;refine bodyPost_ret (v:=.agg #[.string a,.slice A l.length c,.slice (some ⟨X0,0,none⟩) l.length l.length]) ?_ rfl ⟨⟨_,rfl,uv.out⟩,dB.out⟩;simp[results,results200,go_sem,q0,q1,q2]
theorem Fd{w:World}{B n c:Nat}{A:Option Addr}{xs:List (List UInt8)}(h:SlR RTx 1 w B (.slice A n c) xs){k:Nat}{x:List UInt8}(hx:xs[k]?=some x):∃ (b o:Nat) (s:ByteArray),A=some ⟨b,o,none⟩/\b<B/\s.data.toList=x/\s.size<=140737488355328/\w.cell? ⟨b,o+k,none⟩=some (.string s):=by
 obtain⟨A',c',hv,hc,_,he⟩:=h;simp only[Value.slice.injEq] at hv;obtain⟨rfl,_,_⟩:=hv;obtain⟨b,o,e,rfl,hb,_,hce,s,h1,h2,rfl⟩:=he k x hx;exact⟨b,o,s,rfl,hb,h1,h2,by have:=hce 0 _ rfl;simpa using this⟩
def Np.tS(l:List Np.Signed)(B:List (List UInt8)):Prop:=∀ (i:Nat) (x:Np.Signed) (b:List UInt8),l[i]?=some x->B[i]?=some b->Np.lk x.set b
def Np.uC(l:List Np.Signed)(B:List (List UInt8)):Prop:=∀ (i:Nat) (x:Np.Signed) (b:List UInt8),l[i]?=some x->B[i]?=some b->b≠[]->x.set.type=2\/x.set.type=1->x.sigs = []
theorem Qs{x:Np.DSet}{b:List UInt8}(hb:b = []):Np.lk x b↔x.type≠6:=by
 subst hb;exact⟨λh=>h.1 rfl,λh=>⟨λ_=>h,λh2=>absurd rfl h2,λh2=>absurd rfl h2⟩⟩
theorem Qt{x:Np.DSet}{b:List UInt8}(hb:b≠[])(he:b=x.name):Np.lk x b↔(x.type=2\/x.type=6\/x.type=8\/x.type=1):=
 ⟨λh=>h.2.1 hb he,λh=>⟨λh2=>absurd h2 hb,λ_ _=>h,λ_ h2=>absurd he h2⟩⟩
theorem Qu{x:Np.DSet}{b:List UInt8}(hb:b≠[])(he:b≠x.name):Np.lk x b↔x.type=1:=
 ⟨λh=>h.2.2 hb he,λh=>⟨λh2=>absurd h2 hb,λ_ h2=>absurd h2 he,λ_ _=>h⟩⟩
theorem Qy(a:ByteArray)(v bv:Value)(l:List Np.Signed)(B:List (List UInt8))(o6:B.length=l.length)(w:World)(hd:SlR cU 5 w w.heap.size v l)(jF:SlR RTx 1 w w.heap.size bv B) :
 Calls prog 202 #[.agg #[.string a,v,bv]] w (agQ w.heap.size w (.bool (Np.yes (Np.tS l B)))):=by
 obtain⟨r,hr⟩:=abY (Np.yes (Np.tS l B));rw[hr];have HR:=jq hr;have fE:=jq o6;have HD:=jq hd;have tV:=jq jF;obtain⟨A,c,rfl,aT,cu⟩:=ar hd;obtain⟨A2,c2,rfl,dZ,fZ⟩:=ar jF;rw[o6] at dZ fZ tV |-;clear hr hd jF o6;have HW:Hid (∀ o,Below w.heap.size w (w.alloc o)):=jq (λo=>(vQ _ w).alloc (bQ _) _);go_enter func202,ntmps202;go_wp2_with fail;obtain⟨w1,am⟩:=abY (w.alloc (.cells #[.string a,.slice A l.length c,.slice A2 l.length c2] 265));have c2':w1.cell? ⟨w.heap.size,2,none⟩=some (.slice A2 l.length c2):=by rw[<-am];simp[go_sem]
 have cP:w.heap.size<w1.heap.size:=by rw[<-am];simp
 have aD:Hid (Below w.heap.size w w1):=jq (by rw[<-am];exact HW.out _);rw[am];clear am;go_loopw [11] (λi wr=>∃ k:Nat,k<=l.length/\i = .int .i64 k/\Hid (Below w1.heap.size w1 wr)/\Hid (∀ j x b,j<k->l[j]?=some x->B[j]?=some b->Np.lk x.set b)) (λi _=>l.length - (intOf i).toNat)
 case atStart=>exact⟨0,jQ _,rfl,jq (vQ _ _),jq (λj x b hj=>by omega)⟩
 case round=>
  obtain⟨k,hk,rfl,HB,HA⟩:=hrel;have ag:=HB.out.size;have bp:=aaK aD HB.out;by_cases aa:k<l.length
  ·obtain⟨x,ac⟩:∃ x,l[k]?=some x:=⟨_,aQ aa⟩;obtain⟨bb,fw⟩:∃ bb,B[k]?=some bb:=⟨_,aQ (by rw[fE.out];omega)⟩;obtain⟨b,o,c',sn,dv,sv,hA,du,_,aP,eT,be,aY,e0,e1,e2,e3,e4⟩:=iV (HD.out.keep da bp.out) ac
   cases hA
   obtain⟨b2,o2,sb,rfl,R2,qY,TD,g0⟩:=Fd (tV.out.keep Bq bp.out) fw;have HN:Hid (Np.lk x.set bb->∀ j x b,j<k+1->l[j]?=some x->B[j]?=some b->Np.lk x.set b):=jq (λh j x b hj hx hb=>by
    by_cases e:j=k
    ·subst e;rw[ac] at hx;rw[fw] at hb;cases hx;cases hb;exact h
    ·exact HA.out j x b (by omega) hx hb)
   have HF:Hid (¬ Np.lk x.set bb->r=false):=jq (λh=>by
    rw[<-HR.out];exact Np.bP λq=>h (q k _ _ ac fw))
   clear ac fw;obtain⟨Ad,cd,rfl,_,_⟩:=ar be;obtain⟨As,cs,rfl,_,_⟩:=ar aY;have hcell:wr.cell? ⟨w.heap.size,2,none⟩=some (.slice (some ⟨b2,o2,none⟩) l.length c2):=aaJ HB.out c2';have cg:w.heap.size<wr.heap.size:=by omega
   have aq:b<wr.heap.size:=by omega
   have ab:b2<wr.heap.size:=by omega
   have ca:Hid (∀ o,Below w1.heap.size w1 (wr.alloc o)):=jq (λo=>HB.out.alloc HB.out.size _);have nd:Hid (∀ o,Below w.heap.size w (wr.alloc o)):=jq (λo=>bp.out.alloc (by omega) _);have cN:(0:Int)<=(k:Int):=by omega
   have cO:(k:Int)<(l.length:Int):=by omega
   have cK:=jq aP;have gz:=jq qY;obtain⟨ty,gH⟩:=abY x.set.type;have jw:=jq gH;rw[gH] at e1;clear aP qY be aY gH;by_cases jf:bb = []
   ·obtain rfl:sb=⟨#[]⟩:=mY (by rw[gz.out,jf]);have dO:=jq (Qs (x:=x.set) jf);clear jf;by_cases h6:ty=6
    ·have HX:Hid (r=false):=jq (HF.out λh=>(dO.out.1 h) (jw.out.trans h6));subst h6;go_wp2_with fail;go_ret;exact⟨aj HX.out.symm,nd.out _⟩
    ·have HX:=jq (HN.out (dO.out.2 λh=>h6 (jw.out.symm.trans h)));have h6':(ty == 6)=false:=by simpa using h6
     clear h6;go_wp2_with fail;go_roundw
     case rel=>exact⟨k+1,by omega,by go_num,jq (ca.out _),jq HX.out⟩
     case measure=>simp[intOf] <;> omega
   ·have Ej:(sb.toList == [])=false:=by rw[dQ,gz.out];simpa using jf
    by_cases pa:bb=x.set.name
    ·have R6:(sb.toList == sn.toList)=true:=by rw[dQ,dQ,gz.out,cK.out];simpa using pa
     have dO:=jq (Qt (x:=x.set) jf pa);clear jf pa;by_cases ht:ty=2\/ty=6\/ty=8\/ty=1
     ·have HX:=jq (HN.out (dO.out.2 (by rw[jw.out];exact ht)));rcases ht with rfl | rfl | rfl | rfl
      all_goals
       go_wp2_with fail;go_roundw
       case rel=>exact⟨k+1,by omega,by go_num,jq (ca.out _),jq HX.out⟩
       case measure=>simp[intOf] <;> omega
     ·have HX:Hid (r=false):=jq (HF.out λh=>ht (by have:=dO.out.1 h;rwa [jw.out] at this));have t1:(ty != 2)=true:=by simp;omega
      have t2:(ty != 6)=true:=by simp;omega
      have t3:(ty != 8)=true:=by simp;omega
      have t4:(ty != 1)=true:=by simp;omega
      clear ht;go_wp2_with fail;go_ret;exact⟨aj HX.out.symm,nd.out _⟩
    ·have R6:(sb.toList == sn.toList)=false:=by rw[dQ,dQ,gz.out,cK.out];simpa using pa
     have dO:=jq (Qu (x:=x.set) jf pa);clear jf pa;by_cases ht:ty=1
     ·have HX:=jq (HN.out (dO.out.2 (by rw[jw.out];exact ht)));subst ht;go_wp2_with fail;go_roundw
      case rel=>exact⟨k+1,by omega,by go_num,jq (ca.out _),jq HX.out⟩
      case measure=>simp[intOf] <;> omega
     ·have HX:Hid (r=false):=jq (HF.out λh=>ht (by have:=dO.out.1 h;rwa [jw.out] at this));have t4:(ty != 1)=true:=by simpa using ht
      clear ht;go_wp2_with fail;go_ret;exact⟨aj HX.out.symm,nd.out _⟩
  ·go_wp2_with fail;go_ret;refine⟨aj ?_,bp.out⟩;rw[<-HR.out];exact (Np.dz λi x b hx hb=>HA.out i x b (by have:=(cQ.1 hx).1;omega) hx hb).symm
theorem E8{c:UInt8}{r:List UInt8}(hc:c≠46):∃ x xs,Np.aS (c::r)=(c::x)::xs:=by
 unfold Np.aS;rw[Qc hc]
 cases Np.aS r with
 | nil=>exact⟨[],[],rfl⟩
 | cons x xs=>exact⟨x,xs,rfl⟩
theorem Yq{l:List UInt8}(h:Np.aG l=true):Np.eU l=((Np.lY l).head? == some [42]):=by
 unfold Np.lY;by_cases hd:l = [46]
 ·subst hd;decide
 ·rw[Qc hd]
  cases l with
  | nil=>exact absurd h (by decide)
  | cons c r=>
   have hg:Np.dF (Np.aS (c::r)).reverse 0 false=true:=by
    unfold Np.aG at h;rw[Qc hd] at h;split at h
    ·cases h
    ·exact h
   have hl:=Np.IC _ _ _ hg;by_cases hc:c=46
   ·subst hc;have e:Np.aS (46::r) = []::Np.aS r:=by rw[Np.aS,Qb rfl]
    rw[e] at hl
    have:=hl [] (by simp)
    rcases this with h1 | h1
    ·cases h1
    ·exact absurd h1 (by decide)
   ·obtain⟨x,xs,e⟩:=E8 (r:=r) hc;rw[e] at hl |-;rw[Bool.eq_iff_iff];simp only[Np.eU,List.head?_cons,beq_iff_eq,Option.some.injEq,List.cons.injEq];constructor
    ·rintro rfl;rcases hl (42::x) (by simp) with h1 | h1
     ·simpa using h1
     ·exfalso;unfold Np.cH at h1;simp only[Bool.and_eq_true,List.all_cons] at h1;exact absurd h1.2.1 (by decide)
    ·exact λh=>h.1
end
end Go.Proofs.YtfnopgdcaanaiaaGreatDoor
