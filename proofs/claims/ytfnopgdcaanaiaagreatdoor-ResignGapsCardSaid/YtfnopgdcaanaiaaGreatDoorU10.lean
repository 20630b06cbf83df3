/- Parts of the proof. No condition. -/
import Derived.Test.YtfnopgdcaanaiaaGreatDoorU06
import Derived.Test.YtfnopgdcaanaiaaGreatDoorU07
set_option linter.all false
set_option maxRecDepth 100000
set_option maxHeartbeats 8000000
namespace Go.Proofs.YtfnopgdcaanaiaaGreatDoor
open Go.Proofs.Tryz
section
open Go.RowKit
theorem oZ{w:World}{B:Nat}{v:Value}{xs:List Np.Sig}(h:SlR cV 6 w B v xs){k:Nat}{x:Np.Sig}(hx:xs[k]?=some x):∃ (b o c:Nat) (s:ByteArray),v = .slice (some ⟨b,o,none⟩) xs.length c/\b<B/\s.data.toList=x.zone/\s.size<=140737488355328/\
 w.cell? ⟨b,o+k * 6,none⟩=some (.string s)/\w.cell? ⟨b,o+k * 6+1,none⟩=some (.int .i64 x.key)/\w.cell? ⟨b,o+k * 6+2,none⟩=some (.int .i64 x.alg)/\w.cell? ⟨b,o+k * 6+3,none⟩=some (.int .i64 x.frm)/\w.cell? ⟨b,o+k * 6+4,none⟩=some (.int .i64 x.til)/\w.cell? ⟨b,o+k * 6+5,none⟩=some (.int .u64 x.sum):=by
 obtain⟨A,c,rfl,hc,_,he⟩:=h;obtain⟨b,o,e,rfl,hb,_,hce,s,h1,h2,rfl⟩:=he k x hx;exact⟨b,o,c,s,rfl,hb,h1,h2,by have:=hce 0 _ rfl;simpa using this,hce 1 _ rfl,hce 2 _ rfl,hce 3 _ rfl,hce 4 _ rfl,hce 5 _ rfl⟩
theorem Kq(t:Int)(b:Bool)(w:World) :
 Calls prog 271 #[.int .i64 t,.bool b] w (aeY w (.bool (Np.iK t b))):=by
 unfold Np.iK;go_enter func271,ntmps271;go_wp2_with fail
 all_goals
  go_ret;refine⟨ae ?_,rfl⟩;simp_all
theorem Mi{a:List UInt8}{l:List Np.Sig}{k:Nat}{x:Np.Sig}(hx:l[k]?=some x)(h:¬ Np.SigOk a l k x):Np.yes (Np.fp a l)=false:=Np.aK λhf=>h (hf.2 k x hx)
theorem NT{a:List UInt8}{l:List Np.Sig}{k:Nat}{x:Np.Sig}(hx:l[k]?=some x)(h:∀ j g,j<k->l[j]?=some g->Np.SigOk a l j g)(hk:Np.SigOk a l k x):∀ j g,j<k+1->l[j]?=some g->Np.SigOk a l j g:=λj g hj hg=>by
 by_cases e:j=k
 ·subst e;rw[hx] at hg;cases hg;exact hk
 ·exact h j g (by omega) hg
theorem VC(a:ByteArray)(v:Value)(l:List Np.Sig)(w:World)(h:SlR cV 6 w w.heap.size v l) :
 Calls prog 272 #[v,.string a] w (aeJ w.heap.size w (.bool (Np.yes (Np.fp a.data.toList l)))):=by
 obtain⟨r,hr⟩:=abK (Np.yes (Np.fp a.data.toList l));rw[hr];have HR:=jq hr;have H:=jq h;obtain⟨A,c,rfl,aW,bh⟩:=aj h;clear h hr;by_cases h6:l.length<=6
 ·have H6:=jq h6;go_enter func272,ntmps272;go_wp2_with fail;go_loopw [12] (λi wr=>∃ k:Nat,k<=l.length/\i = .int .i64 k/\Hid (Below w.heap.size w wr)/\Hid (∀ j g,j<k->l[j]?=some g->Np.SigOk a.data.toList l j g)) (λi _=>l.length - (intOf i).toNat)
  case atStart=>exact⟨0,jQ _,rfl,jq (vQ _ _),jq (λj g hj=>by omega)⟩
  case round=>
   obtain⟨k,hk,rfl,HB,HA⟩:=hrel;by_cases aa:k<l.length
   ·have dY:=H.out.keep cT HB.out;have ac:=aQ aa;obtain⟨b,o,c',s,hA,bp,hs,al,e0,e1,e2,e3,e4,e5⟩:=oZ dY ac
    cases hA
    have tR:=aQ (show 0<l.length by omega);obtain⟨b',o',c'',s',hA,_,_,_,_,z1,z2,z3,z4,_⟩:=oZ dY tR;simp only[Value.slice.injEq,Option.some.injEq,Addr.mk.injEq,and_true,true_and] at hA;obtain⟨⟨rfl,rfl⟩,-⟩:=hA;simp only[Nat.zero_mul,Nat.add_zero] at z3 z4;have HN:Hid (∀ h:Np.SigOk a.data.toList l k l[k],∀ j g,j<k+1->l[j]?=some g->Np.SigOk a.data.toList l j g):=jq (λh=>NT ac HA.out h);have HF:Hid (¬ Np.SigOk a.data.toList l k l[k]->r=false):=jq (λh=>HR.out ▸ Mi ac h);have HZ:=jq tR;have ut:=jq ac;have HS:=jq hs;have uZ:=HB.out.size;have tk:b<wr.heap.size:=by omega
    have ba:Hid (∀ o n,Below w.heap.size w ((wr.alloc o).drewN n)):=jq (λo n=>below_drewN (HB.out.alloc HB.out.size _) _);have nv:Hid (∀ o,Below w.heap.size w (wr.alloc o)):=jq (λo=>(HB.out.alloc HB.out.size _));have bL:(0:Int)<=(k:Int):=by omega
    have bY:(k:Int)<(l.length:Int):=by omega
    have bg:(0:Int)<(l.length:Int):=by omega
    have Eu:Hid (∀ m,k=m+1->∃ y,l[m]?=some y/\wr.cell? ⟨b,o+m * 6+1,none⟩=some (.int .i64 y.key)):=jq (λm hm=>by
     obtain⟨b2,o2,c2,s2,hA,_,_,_,_,y1,_⟩:=oZ dY (aQ (show m<l.length by omega));simp only[Value.slice.injEq,Option.some.injEq,Addr.mk.injEq,and_true,true_and] at hA;obtain⟨⟨rfl,rfl⟩,-⟩:=hA;exact⟨_,aQ (by omega),y1⟩)
    generalize l[k]=x at *;generalize l[0]=x0 at *;clear dY hs ac tR z1 z2;have nN:((!s.toList == a.toList)=true)\/(!s.toList == a.toList)=false/\(decide (x.key<1)=true\/decide (x.key<1)=false/\(decide (1000000<x.key)=true\/decide (1000000<x.key)=false/\(decide (x.alg<1)=true\/decide (x.alg<1)=false/\(decide (3<x.alg)=true\/decide (3<x.alg)=false/\(decide (x.frm<0)=true\/decide (x.frm<0)=false/\(decide (x.til<x.frm)=true\/decide (x.til<x.frm)=false/\(decide (20000000<x.til)=true\/decide (20000000<x.til)=false))))))):=by
     simp only[Qa,decide_eq_false_iff_not];by_cases q:s.toList=a.toList
     ·simp[q];omega
     ·exact .inl (by simpa using q)
    rcases nN with d1 | ⟨d1,d2 | ⟨d2,d3 | ⟨d3,d4 | ⟨d4,d5 | ⟨d5,d6 | ⟨d6,d7 | ⟨d7,d8 | d8⟩⟩⟩⟩⟩⟩⟩
    rotate_right
    ·by_cases gU:k=0
     ·have iu:decide ((0:Int)<(k:Int))=false:=by simp;omega
      have gV:decide (0<k)=false:=by simp;omega
      have bk:Hid (Np.SigOk a.data.toList l k x):=jq (by
       have e1:s.toList=a.toList:=by simpa using d1
       rw[dQ,dQ] at e1;simp only[decide_eq_false_iff_not] at d2 d3 d4 d5 d6 d7 d8;have bM:x0=x:=by
        have h1:=HZ.out;rw[<-gU,ut.out] at h1;exact (Option.some.inj h1).symm
       refine⟨by rw[<-HS.out,e1],by omega,by omega,by omega,λq hq=>?_,λp _ h0=>by omega⟩;rw[HZ.out] at hq;cases hq;rw[bM];exact⟨rfl,rfl⟩)
      clear gU;go_wp2_with fail;go_quiet (fail);go_wp2_with fail;go_roundw
      case rel=>exact⟨k+1,by omega,by go_num,jq (ba.out _ _),jq (HN.out bk.out)⟩
      case measure=>simp[intOf] <;> omega
     ·obtain⟨m,rfl⟩:∃ m,k=m+1:=⟨k - 1,by omega⟩;obtain⟨y,hy,y1⟩:=Eu.out m rfl;have HY:=jq hy;have iu:decide ((0:Int)<((m+1:Nat):Int))=true:=by simp
      have ak:IntKind.i64.wrap (((m+1:Nat):Int) - 1)=(m:Int):=by rw[IntWalk.i64_in _ (by omega)];omega
      have lw:(0:Int)<=(m:Int):=by omega
      have p9:(m:Int)<(l.length:Int):=by omega
      have TC:((x.frm != x0.frm)=true)\/(x.frm != x0.frm)=false/\((x.til != x0.til)=true\/(x.til != x0.til)=false/\(decide (x.key<=y.key)=true\/decide (x.key<=y.key)=false)):=by
       simp only[bne_iff_ne,bne_eq_false_iff_eq,Qa,decide_eq_false_iff_not];omega
      clear hy gU;rcases TC with c1 | ⟨c1,c2 | ⟨c2,c3 | c3⟩⟩
      rotate_right
      ·have bk:Hid (Np.SigOk a.data.toList l (m+1) x):=jq (by
        have e1:s.toList=a.toList:=by simpa using d1
        rw[dQ,dQ] at e1;simp only[decide_eq_false_iff_not,bne_eq_false_iff_eq] at d2 d3 d4 d5 d6 d7 d8 c1 c2 c3;refine⟨by rw[<-HS.out,e1],by omega,by omega,by omega,λq hq=>?_,λp hp h0=>?_⟩
        ·rw[HZ.out] at hq;cases hq;exact⟨c1,c2⟩
        ·rw[show m+1 - 1=m by omega,HY.out] at hp;cases hp;omega)
       go_wp2_with fail;go_quiet (fail);go_wp2_with fail;go_roundw
       case rel=>exact⟨m+1+1,by omega,by go_num,jq (ba.out _ _),jq (HN.out bk.out)⟩
       case measure=>simp[intOf] <;> omega
      all_goals
       go_wp2_with fail;go_quiet (fail);go_wp2_with fail;go_ret;refine⟨ae (HF.out ?_).symm,ba.out _ _⟩;intro mg;have k5:=mg.same _ HZ.out;have k6:=mg.up _ HY.out (by omega);simp only[bne_iff_ne,bne_eq_false_iff_eq,Qa,decide_eq_false_iff_not] at *;omega
    all_goals
     go_wp2_with fail;go_ret;refine⟨ae (HF.out ?_).symm,nv.out _⟩;intro mg;obtain⟨k1,k2,k3,k4,_,_⟩:=mg
     first
      | (rw[dQ,dQ,HS.out,k1] at d1;simp at d1;done)
      | (simp only[Qa,decide_eq_false_iff_not] at *;omega)
   ·go_wp2_with fail;go_ret;refine⟨ae ?_,HB.out⟩;rw[<-HR.out];exact (Np.bS ⟨H6.out,λj g hg=>HA.out j g (by have:=(cQ.1 hg).1;omega) hg⟩).symm
 ·have h6':6<l.length:=by omega
  have HF:Hid (r=false):=jq (by rw[<-HR.out];exact Np.aK λhf=>h6 hf.1);clear h6;go_enter func272,ntmps272;go_wp2_with fail;go_ret;exact⟨ae HF.out.symm,vQ _ _⟩
theorem OM(s:ByteArray)(hs:s.size<=140737488355328)(w:World) :
 Calls prog 242 #[.string s,.string ⟨#[42]⟩] w (aeY w (.bool (Np.dO s.data.toList))):=by
 have h1:1<=s.size->((s.extract 0 1).toList == [42])=Np.dO s.data.toList:=Mu s;have h2:s.size<1->Np.dO s.data.toList=false:=λh=>by
  have:s.data.toList = []:=rQ (by rw[aX];omega)
  rw[this];rfl
 have H1:=jq h1;have H2:=jq h2;clear h1 h2;go_enter func242,ntmps242;go_wp2
 ·go_ret;exact⟨ae (H1.out (by omega)),rfl⟩
 ·go_ret;exact⟨ae (H2.out (by omega)).symm,rfl⟩
def nZ(l:List Np.Signed)(k:Nat):Option Np.DSet:=(l.take k).getLast?.map (·.set)
theorem Dt{l:List Np.Signed}{k:Nat}{x:Np.Signed}(h:l[k]?=some x):nZ l (k+1)=some x.set:=by
 obtain⟨hl,rfl⟩:=cQ.1 h;unfold nZ;rw[fQ hl,List.getLast?_append];rfl
theorem OK{apex:List UInt8}{l:List Np.Signed}{k:Nat}{x:Np.Signed}(h:l[k]?=some x)(p:Option Np.DSet) :
 Np.iL apex p (l.drop k)=((Np.aD x.set.name&&Np.aZ x.set.name apex)&&Np.da x.set&&(match p with | none=>true | some q=>decide (Np.fM q x.set<0))&&Np.iL apex (some x.set) (l.drop (k+1))):=by
 obtain⟨hl,rfl⟩:=cQ.1 h;rw[sQ hl]
 cases p <;> rfl
def QV(w1:World)(apex:List UInt8)(l:List Np.Signed)(i:Value)(wr:World):Prop:=
 ∃ k:Nat,k<=l.length/\i = .int .i64 k/\Below w1.heap.size w1 wr/\Hid (∀ j x,j<k->l[j]?=some x->Np.da x.set=true)/\Hid (Np.iL apex none l=Np.iL apex (nZ l k) (l.drop k))
theorem Z8(a:ByteArray)(ha:a.size<=140737488355328)(v:Value)(l:List Np.Signed)(bn:l.length<=20000)(w:World)(hR:f9 w w.heap.size)(hd:SlR cA 5 w w.heap.size v l) :
 Calls prog 198 #[.agg #[.string a,v]] w (aeJ w.heap.size w (.bool (Np.ei ⟨a.data.toList,l⟩))):=by
 have HR:=jq hR;have HD:=jq hd;obtain⟨A,c,rfl,aW,bh,-⟩:=hd;clear hR;have HW:Hid (∀ o,Below w.heap.size w (w.alloc o)):=jq (λo=>(vQ _ w).alloc (bQ _) _);go_enter func198,ntmps198;go_wp2_with fail;refine (nameValid_any _ ha _).mono ?_;rintro e w1 ⟨rfl,hb⟩;have c0:w1.cell? ⟨w.heap.size,0,none⟩=some (.string a):=by rw[hb.cell (by simp)];go_simp
 have c1:w1.cell? ⟨w.heap.size,1,none⟩=some (.slice A l.length c):=by rw[hb.cell (by simp)];go_simp
 have bU:w.heap.size<w1.heap.size:=by have:=hb.size;simp at this;omega
 have ar:=jq ((HW.out _).trans (hb.mono (by simp)));clear hb
 cases mi:Np.aD a.data.toList with
 | false=>
  have HF:Hid (Np.ei ⟨a.data.toList,l⟩=false):=jq (by unfold Np.ei;rw[mi];rfl);clear mi;go_wp2_with fail;go_ret;exact⟨ae HF.out.symm,ar.out⟩
 | true=>
  have uC:=jq mi;clear mi
  cases iw:Np.dO a.data.toList with
  | true=>
   have HF:Hid (Np.ei ⟨a.data.toList,l⟩=false):=jq (by unfold Np.ei;rw[iw];simp);go_wp2_with (go_at_call 242;refine (OM a ha _).mono ?_;rintro e w' ⟨rfl,rfl⟩);go_ret;exact⟨ae HF.out.symm,ar.out⟩
  | false=>
   have HF:Hid (Np.ei ⟨a.data.toList,l⟩=Np.iL a.data.toList none l):=jq (by unfold Np.ei;rw[iw,uC.out];simp);go_wp2_with (go_at_call 242;refine (OM a ha _).mono ?_;rintro e w' ⟨rfl,rfl⟩);clear iw;go_loopw [30] (λi wr=>QV w1 a.data.toList l i wr) (λi _=>l.length - (intOf i).toNat)
   case atStart=>exact⟨0,jQ _,rfl,vQ _ _,jq (λj x hj=>by omega),jq rfl⟩
   case round=>
    obtain⟨k,hk,rfl,aI,HV,HG⟩:=hrel;by_cases aa:k<l.length
    ·have kr:Below w.heap.size w wr:=ar.out.trans (aI.acQ);have ac:=aQ aa;obtain⟨b,o,c',sn,dv,sv,hA,bp,_,aw,al,aR,aN,e0,e1,e2,e3,e4⟩:=fk (HD.out.keep bI kr) ac
     cases hA
     generalize hx:l[k]=x at *;clear hx;obtain⟨Ad,cd,rfl,FR,Uu⟩:=aj aR;obtain⟨As,cs,rfl,hcs,hls⟩:=aj aN;have d0:wr.cell? ⟨w.heap.size,0,none⟩=some (.string a):=by rw[aI.cell (by simpa using bU)];exact c0
     have d1:wr.cell? ⟨w.heap.size,1,none⟩=some (.slice (some ⟨b,o,none⟩) l.length c):=by rw[aI.cell (by simpa using bU)];exact c1
     have bO:w.heap.size<wr.heap.size:=by have:=aI.size;omega
     have kV:=jq aR;have HX:=jq ac;have aS:=jq aw;have aL:=jq aI;have ul:=jq kr;have lL:=jq (HG.out.trans (OK ac (nZ l k)));clear aR aN ac aw aI kr c0 c1;go_wp2_with fail;have fR:Below wr.heap.size wr (wr.alloc (.cells #[.string sn,.int .i64 x.set.type,.int .i64 x.set.life,.slice Ad x.set.data.length cd,.slice As x.sigs.length cs] 42)):=(vQ _ _).alloc (bQ _) _;have p0:=World.cell?_alloc_new wr #[.string sn,.int .i64 x.set.type,.int .i64 x.set.life,.slice Ad x.set.data.length cd,.slice As x.sigs.length cs] 42 0;have p1:=World.cell?_alloc_new wr #[.string sn,.int .i64 x.set.type,.int .i64 x.set.life,.slice Ad x.set.data.length cd,.slice As x.sigs.length cs] 42 1;have kH:wr.heap.size<(wr.alloc (.cells #[.string sn,.int .i64 x.set.type,.int .i64 x.set.life,.slice Ad x.set.data.length cd,.slice As x.sigs.length cs] 42)).heap.size:=by simp
     generalize wr.alloc (.cells #[.string sn,.int .i64 x.set.type,.int .i64 x.set.life,.slice Ad x.set.data.length cd,.slice As x.sigs.length cs] 42)=wa at fR p0 p1 kH |-;have eS:=jq fR;have so:=abJ ul fR;replace p0:wa.cell? ⟨wr.heap.size,0,none⟩=some (.string sn):=p0;replace p1:wa.cell? ⟨wr.heap.size,1,none⟩=some (.int .i64 x.set.type):=p1;replace d0:wa.cell? ⟨w.heap.size,0,none⟩=some (.string a):=by rw[fR.cell (by simpa using bO)];exact d0
     replace d1:wa.cell? ⟨w.heap.size,1,none⟩=some (.slice (some ⟨b,o,none⟩) l.length c):=by rw[fR.cell (by simpa using bO)];exact d1
     clear fR e0 e1 e2 e3 e4;refine (GY sn al _ _ _ x.set.data _ ((HR.out.keep so.out).more (by omega)) ((kV.out.keep cu (eS.out.acQ)).more cS (by omega))).mono ?_;have oM:(⟨sn.data.toList,x.set.type,x.set.life,x.set.data⟩:Np.DSet)=x.set:=by rw[aS.out]
     rw[oM];clear oM;rintro e w2 ⟨rfl,ab⟩;have aO:wr.heap.size<w2.heap.size:=by have:=ab.size;omega
     have atY:w.heap.size<w2.heap.size:=by omega
     replace d0:w2.cell? ⟨w.heap.size,0,none⟩=some (.string a):=by rw[ab.cell (by simp;omega)];exact d0
     replace d1:w2.cell? ⟨w.heap.size,1,none⟩=some (.slice (some ⟨b,o,none⟩) l.length c):=by rw[ab.cell (by simp;omega)];exact d1
     replace p0:w2.cell? ⟨wr.heap.size,0,none⟩=some (.string sn):=by rw[ab.cell (by simpa using kH)];exact p0
     replace p1:w2.cell? ⟨wr.heap.size,1,none⟩=some (.int .i64 x.set.type):=by rw[ab.cell (by simpa using kH)];exact p1
     have ai:=abJ so ab;have AE:=abJ eS ab;clear ab
     cases eE:Np.da x.set with
     | false=>
      have je:=jq eE;clear eE;go_wp2_with fail;go_ret;refine⟨ae ?_,ai.out⟩;rw[HF.out,lL.out,je.out,Bool.and_false];rfl
     | true=>
      have je:=jq eE;have kb:Np.aD sn.data.toList=true:=by rw[aS.out];exact Dn eE
      have f8:=jq kb;have yo:∀ j y,j<k+1->l[j]?=some y->Np.da y.set=true:=λj y hj hy=>by
       by_cases e:j=k
       ·subst e;rw[HX.out] at hy;cases hy;exact eE
       ·exact HV.out j y (by omega) hy
      have oe:=jq yo;clear eE kb yo;go_wp2_with fail;refine (Hp sn a al ha _ f8.out uC.out).mono ?_;rintro e w3 ⟨rfl,ah⟩;have fW:wr.heap.size<w3.heap.size:=by have:=ah.size;omega
      have auQ:w.heap.size<w3.heap.size:=by omega
      replace d1:w3.cell? ⟨w.heap.size,1,none⟩=some (.slice (some ⟨b,o,none⟩) l.length c):=by rw[ah.cell (by simp;omega)];exact d1
      replace p0:w3.cell? ⟨wr.heap.size,0,none⟩=some (.string sn):=by rw[ah.cell (by simpa using aO)];exact p0
      replace p1:w3.cell? ⟨wr.heap.size,1,none⟩=some (.int .i64 x.set.type):=by rw[ah.cell (by simpa using aO)];exact p1
      have aB:=abJ ai ah;have Ie:=abJ AE ah;clear ah d0
      cases eP:Np.aZ sn.data.toList a.data.toList with
      | false=>
       have xB:=jq eP;clear eP;go_wp2_with fail;go_ret;refine⟨ae ?_,aB.out⟩;rw[HF.out,lL.out,<-aS.out,f8.out,xB.out];rfl
      | true=>
       have cP:=jq (show Np.iL a.data.toList none l=((match nZ l k with | none=>true | some q=>decide (Np.fM q x.set<0))&&Np.iL a.data.toList (nZ l (k+1)) (l.drop (k+1))) by
        rw[lL.out,<-aS.out,f8.out,eP,je.out,Dt HX.out];rfl)
       clear eP;by_cases bL:k=0
       ·subst bL;go_wp2_with fail;go_roundw
        case rel=>exact⟨1,by omega,by go_num,aL.out.trans (Ie.out.mono aL.out.size),oe,jq (by rw[cP.out];rfl)⟩
        case measure=>simp[intOf] <;> omega
       ·obtain⟨i,rfl⟩:∃ i,k=i+1:=⟨k - 1,by omega⟩;have p6:=aQ (show i<l.length by omega);obtain⟨b',o',c'',sq,dq,sg,nH,yu,_,jt,LY,yH,_,f0,f1,f2,f3,_⟩:=fk ((HD.out.keep bI aB.out)) p6
        cases nH
        have zG:=Dn (HV.out i l[i] (by omega) p6);generalize hy:l[i]=y at *;clear hy;obtain⟨Aq,cq,rfl,TI,Lv⟩:=aj yH;have vv:((((i+1:Nat):Int)) == 0)=false:=by simp;omega
        have QE:Hid (Np.aD sq.data.toList=true):=jq (by rw[jt];exact zG);have Ps:Hid (Np.eb (sq.data.toList,y.set.type) (sn.data.toList,x.set.type)=Np.fM y.set x.set):=jq (by rw[jt,aS.out,Np.E1];rfl);have pE:=jq (Dt p6);clear yH jt p6 zG;have ahZ:b<w3.heap.size:=by omega
        have ak:IntKind.i64.wrap (((i+1:Nat):Int) - 1)=(i:Int):=by rw[IntWalk.i64_in _ (by omega)];omega
        have lw:(0:Int)<=(i:Int):=by omega
        have p9:(i:Int)<(l.length:Int):=by omega
        have qF:Hid (∀ o,Below w3.heap.size w3 (w3.alloc o)):=jq (λo=>(vQ _ _).alloc (bQ _) _);go_wp2_with fail;refine (OL sq sn LY al _ _ QE.out f8.out _).mono ?_;rw[Ps.out];rintro e w4 ⟨rfl,aq⟩;have bJ:=jq ((qF.out _).trans (aq.mono (by simp)));clear aq;by_cases eY:Np.fM y.set x.set<0
        ·have jI:=jq (uQ eY);have FT:¬ (0<=Np.fM y.set x.set):=by omega
         clear eY;go_wp2_with fail;go_roundw
         case rel=>
          refine⟨i+1+1,by omega,by go_num,aL.out.trans ((Ie.out.trans (bJ.out.acQ)).mono aL.out.size),oe,jq ?_⟩;rw[cP.out,pE.out];simp only[jI.out,Bool.true_and]
         case measure=>simp[intOf] <;> omega
        ·have jI:=jq (tQ eY);have FT:0<=Np.fM y.set x.set:=by omega
         clear eY;go_wp2_with fail;go_ret;refine⟨ae ?_,aB.out.trans (bJ.out.acQ)⟩;rw[HF.out,cP.out,pE.out];simp only[jI.out,Bool.false_and]
    ·go_wp2_with fail;go_ret;refine⟨ae ?_,ar.out.trans (aI.acQ)⟩;rw[HF.out,HG.out,List.drop_eq_nil_of_le (by omega)];rfl
theorem Sj(s1 s2:ByteArray)(h1:s1.size<=140737488355328)(h2:s2.size<=140737488355328)(t1 l1 t2:Int)(A1 A2:Option Addr)(m1 c1 m2 c2:Nat)(n1:Np.aD s1.data.toList=true)(n2:Np.aD s2.data.toList=true)(w:World) :
 Calls prog 328 #[.agg #[.string s1,.int .i64 t1,.int .i64 l1,.slice A1 m1 c1,.slice A2 m2 c2],.agg #[.string s2,.int .i64 t2]] w
  λe w'=>e = .returned (.int .i64 (Np.eb (s1.data.toList,t1) (s2.data.toList,t2)))/\Below w.heap.size w w':=by
 have HW:Hid (∀ o o',Below w.heap.size w ((w.alloc o).alloc o')):=jq (λo o'=>((vQ _ w).alloc (bQ _) _).alloc (by simp) _);have N1:=jq n1;have N2:=jq n2;clear n1 n2;go_enter func328,ntmps328;go_wp2_with fail;refine (OL s1 s2 h1 h2 _ _ N1.out N2.out _).mono ?_;rintro e w1 ⟨rfl,hb⟩;have HB:=jq ((HW.out _ _).trans (hb.mono (by simp;omega)));clear hb;go_wp2_with fail;go_ret;exact⟨rfl,HB.out⟩
def Np.zV(l:List Np.Signed)(key:List UInt8×Int):Nat:=l.countP λx=>decide (Np.eb (Np.dP x.set) key<0)
def Np.sY(l:List Np.Signed):Prop:=l.Pairwise λa b=>Np.eb (Np.dP a.set) (Np.dP b.set)<0
theorem Xd{l:List Np.Signed}{key:List UInt8×Int}{i:Nat}(hi:i<=l.length)(h1:∀ j x,j<i->l[j]?=some x->Np.eb (Np.dP x.set) key<0)(h2:∀ j x,i<=j->l[j]?=some x->¬ Np.eb (Np.dP x.set) key<0):Np.zV l key=i:=by
 unfold Np.zV;have e:=List.take_append_drop i l;rw[<-e,List.countP_append,List.countP_eq_length.2,List.countP_eq_zero.2]
 ·rw[List.length_take];omega
 ·intro x hx;obtain⟨j,hj,rfl⟩:=nQ.1 hx;rw[List.getElem_drop];simpa using h2 (i+j) _ (by omega) (aQ _)
 ·intro x hx;obtain⟨j,hj,rfl⟩:=nQ.1 hx;rw[List.getElem_take];rw[List.length_take] at hj;simpa using h1 j _ (by omega) (aQ _)
theorem Sw{l:List Np.Signed}(hs:Np.sY l){key:List UInt8×Int}{i:Nat}(h1:∀ j x,j<i->l[j]?=some x->Np.eb (Np.dP x.set) key<0)(h2:∀ j x,i<=j->l[j]?=some x->¬ Np.eb (Np.dP x.set) key<0):(∃ x∈l,Np.dP x.set=key)↔∃ x,l[i]?=some x/\Np.eb (Np.dP x.set) key=0:=by
 constructor
 ·rintro⟨x,hx,rfl⟩;obtain⟨j,hj,rfl⟩:=nQ.1 hx;have UW:=Np.wg.self (Np.dP l[j].set);rcases Nat.lt_trichotomy j i with h | h | h
  ·have:=h1 j _ h (aQ hj)
   omega
  ·subst h;exact⟨_,aQ hj,UW⟩
  ·exact absurd (List.pairwise_iff_getElem.1 hs i j (by omega) hj h) (h2 i _ (bQ _) (aQ (by omega)))
 ·rintro⟨x,hx,h⟩;exact⟨x,gQ hx,Np.wg.zero _ _ h⟩
theorem Ha{l:List Np.Signed}(hs:Np.sY l){i j:Nat}{x y:Np.Signed}(hx:l[i]?=some x)(hy:l[j]?=some y)(h:i<j):Np.eb (Np.dP x.set) (Np.dP y.set)<0:=by
 obtain⟨hi,rfl⟩:=cQ.1 hx;obtain⟨hj,rfl⟩:=cQ.1 hy;exact List.pairwise_iff_getElem.1 hs i j hi hj h
theorem YZ{z:Np.Zone}(h:Np.InOrder z):Np.sY z.sets:=by
 have:=h.order
 rw[List.pairwise_map] at this;exact this.imp λh=>by rw[<-Np.E1];exact h
def Np.iN(l:List Np.Signed)(n:List UInt8)(t:Int):Prop:=∃ x∈l,x.set.name=n/\x.set.type=t
theorem Tn{l:List Np.Signed}{n:List UInt8}{t:Int} : Np.iN l n t↔∃ x∈l,Np.dP x.set=(n,t):=by
 unfold Np.iN Np.dP;simp only[Prod.mk.injEq]
theorem Rn(v:Value)(l:List Np.Signed)(bn:l.length<=20000)(hv:∀ x∈l,Np.aD x.set.name=true)(hs:Np.sY l)(q:ByteArray)(hq:q.size<=140737488355328)(qt:Int)(nq:Np.aD q.data.toList=true)(w:World)(hd:SlR cA 5 w w.heap.size v l) :
 Calls prog 327 #[v,.agg #[.string q,.int .i64 qt],.func (.func 328) #[] #[]] w
  λe w'=>e = .returned (.tuple #[.int .i64 (Np.zV l (q.data.toList,qt)),.bool (Np.yes (Np.iN l q.data.toList qt))])/\Below w.heap.size w w':=by
 obtain⟨pl,tM⟩:=abK (Np.zV l (q.data.toList,qt));obtain⟨r,hr⟩:=abK (Np.yes (Np.iN l q.data.toList qt));rw[tM,hr];have pC:=jq tM;have HR:=jq hr;have HV:=jq hv;have HS:=jq hs;have HD:=jq hd;have NQ:=jq nq;have eg:∀ args w,(callFunc 328 args).run prog w = .ok (.enter 328 args) w:=enters_of func328 (by kernel_rfl) rfl;obtain⟨A,c,rfl,aW,bh⟩:=aj hd;clear tM hr hv hs hd nq;have HW:Hid (∀ o,Below w.heap.size w (w.alloc o)):=jq (λo=>(vQ _ w).alloc (bQ _) _);go_enter func327,ntmps327;go_wp2_with fail;have c0:=World.cell?_alloc_new w #[.string q,.int .i64 qt] 31 0;have c1:=World.cell?_alloc_new w #[.string q,.int .i64 qt] 31 1;have bU:w.heap.size<(w.alloc (.cells #[.string q,.int .i64 qt] 31)).heap.size:=by simp
 have ar:=jq (HW.out (.cells #[.string q,.int .i64 qt] 31));generalize w.alloc (.cells #[.string q,.int .i64 qt] 31)=w1 at c0 c1 bU ar |-;replace c0:w1.cell? ⟨w.heap.size,0,none⟩=some (.string q):=c0;replace c1:w1.cell? ⟨w.heap.size,1,none⟩=some (.int .i64 qt):=c1;go_loopg [9,10] l.length (λg s7 s8 wr=>∃ lo hi:Nat,s7 = .int .i64 lo/\s8 = .int .i64 hi/\lo<=hi/\hi<=l.length/\hi - lo<=g/\Hid (Below w1.heap.size w1 wr)/\Hid ((∀ j x,j<lo->l[j]?=some x->Np.eb (Np.dP x.set) (q.data.toList,qt)<0)/\(∀ j x,hi<=j->l[j]?=some x->¬ Np.eb (Np.dP x.set) (q.data.toList,qt)<0)))
 case atStart=>exact⟨0,l.length,rfl,rfl,jQ _,bQ _,by omega,jq (vQ _ _),jq ⟨λj x hj=>by omega,λj x hj hx=>by have:=(cQ.1 hx).1;omega⟩⟩
 case round=>
  obtain⟨lo,hi,rfl,rfl,hlh,hin,hg,HB,HI⟩:=hrel;have Vf:=HB.out.size;have d0:wr.cell? ⟨w.heap.size,0,none⟩=some (.string q):=by rw[HB.out.cell (by simpa using bU)];exact c0
  have d1:wr.cell? ⟨w.heap.size,1,none⟩=some (.int .i64 qt):=by rw[HB.out.cell (by simpa using bU)];exact c1
  have bO:w.heap.size<wr.heap.size:=by omega
  have az:=abJ ar HB.out;have nP:∀ (g:bi wr) (p:Addr),p.block<wr.heap.size->g.w.cell? p=wr.cell? p:=λg p h=>g.cell p h;have dY:=HD.out.keep bI az.out;have jH:Hid (∀ (k:Nat) (x:Np.Signed),l[k]?=some x->∃ (b o c':Nat) (s:ByteArray) (Ad:Option Addr) (md cd:Nat) (As:Option Addr) (ms cs:Nat),A=some ⟨b,o,none⟩/\b<wr.heap.size/\wr.cell? ⟨b,o+k * 5,none⟩=some (.string s)/\wr.cell? ⟨b,o+k * 5+1,none⟩=some (.int .i64 x.set.type)/\wr.cell? ⟨b,o+k * 5+2,none⟩=some (.int .i64 x.set.life)/\wr.cell? ⟨b,o+k * 5+3,none⟩=some (.slice Ad md cd)/\wr.cell? ⟨b,o+k * 5+4,none⟩=some (.slice As ms cs)/\
   ∀ g:bi wr,Calls prog 328 #[.agg #[.string s,.int .i64 x.set.type,.int .i64 x.set.life,.slice Ad md cd,.slice As ms cs],.agg #[.string q,.int .i64 qt]] g.w λe w'=>e = .returned (.int .i64 (Np.eb (Np.dP x.set) (q.data.toList,qt)))/\Below g.w.heap.size g.w w'):=jq (λk x hx=>by
   obtain⟨b,o,c',s,dv,sv,hA,bp,_,aw,al,aR,aN,e0,e1,e2,e3,e4⟩:=fk dY hx
   cases hA
   obtain⟨Ad,cd,rfl,_,_⟩:=aj aR;obtain⟨As,cs,rfl,_,_⟩:=aj aN;refine⟨b,o,c,s,Ad,_,cd,As,_,cs,rfl,by omega,e0,e1,e2,e3,e4,λg=>?_⟩
   have:=Sj s q al hq x.set.type x.set.life qt Ad As x.set.data.length cd x.sigs.length cs (by rw[aw];exact HV.out x (gQ hx)) NQ.out g.w
   rw[aw] at this;exact this)
  clear dY c0 c1;by_cases aa:lo<hi
  ·obtain⟨k,hk⟩:=abK ((lo+hi) / 2);have lA:k<l.length:=by omega
   have ac:=aQ lA;obtain⟨b,o,c',s,Ad,md,cd,As,ms,cs,rfl,aI,e0,e1,e2,e3,e4,bE⟩:=jH.out k _ ac;generalize hx:l[k]=x at *;have HX:=jq ac;have kT:=jq bE;have hkI:((lo:Int)+(hi:Int)) / 2=(k:Int):=by omega
   have HK:=jq hk;have bL:(0:Int)<=(k:Int):=by omega
   have bY:(k:Int)<(l.length:Int):=by omega
   clear ac bE hx hk;by_cases hc:Np.eb (Np.dP x.set) (q.data.toList,qt)<0
   ·have HN:Hid (∀ j y,j<k+1->l[j]?=some y->Np.eb (Np.dP y.set) (q.data.toList,qt)<0):=jq (λj y hj hy=>by
     by_cases e:j=k
     ·subst e;rw[HX.out] at hy;cases hy;exact hc
     ·exact Np.wg.trans _ _ _ (Ha HS.out hy HX.out (by omega)) hc)
    have db:decide (Np.eb (Np.dP x.set) (q.data.toList,qt)<0)=true:=by simpa using hc
    clear hc;go_wp2_with fail;refine adX ?_
    repeat (go_big_quiet_step ((go_at_call 328;exact Calls.grow_of (kT.out _))))
    refine wpQuiet_nil ?_;rintro _ ⟨g,rfl⟩;go_wp2_with fail;go_roundg (hi - (k+1))
    case measure=>have:=HK.out;omega
    case rel=>exact⟨k+1,hi,by go_num,rfl,by have:=HK.out;omega,hin,bQ _,abJ HB g.below,jq ⟨HN.out,HI.out.2⟩⟩
   ·have HN:Hid (∀ j y,k<=j->l[j]?=some y->¬ Np.eb (Np.dP y.set) (q.data.toList,qt)<0):=jq (λj y hj hy aa=>by
     by_cases e:j=k
     ·subst e;rw[HX.out] at hy;cases hy;exact hc aa
     ·exact hc (Np.wg.trans _ _ _ (Ha HS.out HX.out hy (by omega)) aa))
    have db:decide (Np.eb (Np.dP x.set) (q.data.toList,qt)<0)=false:=by simpa using hc
    clear hc;go_wp2_with fail;refine adX ?_
    repeat (go_big_quiet_step ((go_at_call 328;exact Calls.grow_of (kT.out _))))
    refine wpQuiet_nil ?_;rintro _ ⟨g,rfl⟩;go_wp2_with fail;go_roundg (k - lo)
    case measure=>have:=HK.out;omega
    case rel=>exact⟨lo,k,rfl,by go_num,by have:=HK.out;omega,by omega,bQ _,abJ HB g.below,jq ⟨HI.out.1,HN.out⟩⟩
  ·obtain rfl:hi=lo:=by omega
   have HE:Hid (pl=hi):=jq (by rw[<-pC.out];exact Xd hin HI.out.1 HI.out.2);have HF:Hid (r=Np.yes (∃ x,l[hi]?=some x/\Np.eb (Np.dP x.set) (q.data.toList,qt)=0)):=jq (by rw[<-HR.out];exact Np.r9 (Tn.trans (Sw HS.out HI.out.1 HI.out.2)));by_cases hn:hi<l.length
   ·have ac:=aQ hn;obtain⟨b,o,c',s,Ad,md,cd,As,ms,cs,rfl,aI,e0,e1,e2,e3,e4,bE⟩:=jH.out hi _ ac;generalize hx:l[hi]=x at *;have HX:=jq ac;have kT:=jq bE;have bL:(0:Int)<=(hi:Int):=by omega
    have bY:(hi:Int)<(l.length:Int):=by omega
    clear ac bE hx;by_cases hc:Np.eb (Np.dP x.set) (q.data.toList,qt)=0
    ·have HT:Hid (r=true):=jq (by rw[HF.out];exact Np.bS ⟨x,HX.out,hc⟩);have db:(Np.eb (Np.dP x.set) (q.data.toList,qt) == 0)=true:=by simpa using hc
     clear hc;go_wp2_with fail;refine adX ?_
     repeat (go_big_quiet_step ((go_at_call 328;exact Calls.grow_of (kT.out _))))
     refine wpQuiet_nil ?_;rintro _ ⟨g,rfl⟩;go_wp2_with fail;go_ret2;exact⟨by rw[HE.out,HT.out];rfl,az.out.trans (g.below.acQ)⟩
    ·have HT:Hid (r=false):=jq (by rw[HF.out];exact Np.aK λ⟨y,hy,h0⟩=>by rw[HX.out] at hy;cases hy;exact hc h0);have db:(Np.eb (Np.dP x.set) (q.data.toList,qt) == 0)=false:=by simpa using hc
     clear hc;go_wp2_with fail;refine adX ?_
     repeat (go_big_quiet_step ((go_at_call 328;exact Calls.grow_of (kT.out _))))
     refine wpQuiet_nil ?_;rintro _ ⟨g,rfl⟩;go_wp2_with fail;go_ret2;exact⟨by rw[HE.out,HT.out];rfl,az.out.trans (g.below.acQ)⟩
   ·have HT:Hid (r=false):=jq (by rw[HF.out];exact Np.aK λ⟨y,hy,h0⟩=>by have:=(cQ.1 hy).1;omega);have ct:decide ((hi:Int)<(l.length:Int))=false:=by simp;omega
    have dL:decide (hi<l.length)=false:=by simp;omega
    go_wp2_with fail;refine adX ?_
    repeat (go_big_quiet_step (fail))
    refine wpQuiet_nil ?_;rintro _ ⟨g,rfl⟩;go_wp2_with fail;go_ret2;exact⟨by rw[HE.out,HT.out];rfl,az.out.trans (g.below.acQ)⟩
theorem Kp(a:ByteArray)(v:Value)(l:List Np.Signed)(bn:l.length<=20000)(hv:∀ x∈l,Np.aD x.set.name=true)(hs:Np.sY l)(q:ByteArray)(hq:q.size<=140737488355328)(qt:Int)(nq:Np.aD q.data.toList=true)(w:World)(hd:SlR cA 5 w w.heap.size v l) :
 Calls prog 262 #[.agg #[.string a,v],.agg #[.string q,.int .i64 qt]] w
  λe w'=>e = .returned (.tuple #[.int .i64 (Np.zV l (q.data.toList,qt)),.bool (Np.yes (Np.iN l q.data.toList qt))])/\Below w.heap.size w w':=by
 have HV:=jq hv;have HS:=jq hs;have HD:=jq hd;have NQ:=jq nq;obtain⟨A,c,rfl,aW,bh⟩:=aj hd;have HW:Hid (∀ o o',Below w.heap.size w ((w.alloc o).alloc o')):=jq (λo o'=>((vQ _ w).alloc (bQ _) _).alloc (by simp) _);clear hv hs hd nq;go_enter func262,ntmps262;go_wp2_with fail;refine (Rn _ l bn HV.out HS.out q hq qt NQ.out _ (HD.out.later bI eF (HW.out _ _))).mono ?_;rintro e w1 ⟨rfl,hb⟩;have HB:=jq ((HW.out _ _).trans (hb.mono (by simp;omega)));clear hb;go_wp2_with fail;go_ret2;exact⟨rfl,HB.out⟩
def RTx(_:World)(_:Nat)(e:List Value)(x:List UInt8):Prop:=∃ s:ByteArray,s.data.toList=x/\s.size<=140737488355328/\e = [.string s]
theorem mv:cL RTx:=λ_ _ _ _ _ h _=>h
theorem NF:dD RTx:=λ_ _ _ _ _ h _=>h
def fq(a:List UInt8)(l:List Np.Signed):List (List UInt8×Value):=(l.filter λx=>decide (x.set.type=2)&&!(x.set.name == a)).map λx=>(x.set.name,.bool true)
theorem RV(a:List UInt8)(l:List Np.Signed)(x:Np.Signed):fq a (l ++ [x])=if x.set.type=2/\x.set.name≠a then fq a l ++ [(x.set.name,.bool true)] else fq a l:=by
 unfold fq;rw[List.filter_append];by_cases h1:x.set.type=2 <;> by_cases h2:x.set.name=a <;> simp[h1,h2]
theorem RU(a:List UInt8)(l:List Np.Signed)(x:Np.Signed):fq a (x::l)=if x.set.type=2/\x.set.name≠a then (x.set.name,.bool true)::fq a l else fq a l:=by
 unfold fq;by_cases h1:x.set.type=2 <;> by_cases h2:x.set.name=a <;> simp[h1,h2]
theorem BE(a:List UInt8)(n:List UInt8):∀ l:List Np.Signed,((fq a l).lookup n).getD (.bool false) = .bool (Np.cj ⟨a,l⟩ n)/\((∀ x∈l,x.set.type=2->x.set.name≠n)->(fq a l).lookup n=none)
 | []=>⟨rfl,λ_=>rfl⟩
 | x::l=>by
   obtain⟨i1,i2⟩:=BE a n l;have e:Np.cj ⟨a,x::l⟩ n=((decide (x.set.type=2)&&!(x.set.name == a)&&x.set.name == n)||Np.cj ⟨a,l⟩ n):=rfl;rw[RU];split
   ·rename_i h;by_cases hn:x.set.name=n
    ·rw[hn,List.lookup_cons_self];refine⟨?_,λhh=>absurd hn (hh x (by simp) h.1)⟩;rw[e];have h2:=h.2;rw[hn] at h2 |-;simp[h.1,h2]
    ·have hb:(n == x.set.name)=false:=by simpa using λe=>hn e.symm
     rw[List.lookup_cons,hb];refine⟨?_,λhh=>i2 λy hy=>hh y (mQ _ hy)⟩;have ab:(x.set.name == n)=false:=by simpa using hn
     rw[e,ab,Bool.and_false,Bool.false_or];exact i1
   ·rename_i h;refine⟨?_,λhh=>i2 λy hy=>hh y (mQ _ hy)⟩;have hf:(decide (x.set.type=2)&&!(x.set.name == a))=false:=by
     rw[Bool.and_eq_false_iff];by_cases h1:x.set.type=2
     ·right
      have:x.set.name=a:=Decidable.not_not.1 λh2=>h ⟨h1,h2⟩
      simp[this]
     ·left;simpa using h1
    rw[e,hf,Bool.false_and,Bool.false_or];exact i1
theorem GQ(n j:Nat)(hj:j<n):(madeCells #[Value.string ⟨#[]⟩] n)[j]?=some (.string ⟨#[]⟩):=by
 unfold madeCells;simp[hj,Nat.mod_one]
theorem Tryz.infoStrZ:(prog.info? 9).map (λi=>(i.zero,i.size,i.bytes))=some (some (.string ⟨#[]⟩),1,16):=by kernel_rfl
theorem GR(n:Nat)(hn:n<=20000)(w:World):(Instr.makeSlice 116 (.int .i64 n) (.int .i64 n)).run prog w = .ok (.slice (some ⟨w.heap.size,0,none⟩) n n) (w.alloc (.cells (madeCells #[Value.string ⟨#[]⟩] n) 9)):=by
 obtain⟨i,hi,hp⟩:=Option.map_eq_some_iff.1 Tryz.infoStrZ;simp only[Prod.mk.injEq] at hp;obtain⟨hz,hs,hb⟩:=hp
 have:=run_make (P:=prog) w 116 9 i (.string ⟨#[]⟩) underlying116 hi hz .i64 .i64 n n (by omega) (Int.le_refl _) (by rw[hb];omega) (by omega)
 rw[hs] at this;simpa [Value.cells] using this
def er(w:World)(B:Nat)(xs:List (List UInt8)):Prop:=∀ j x,xs[j]?=some x->∃ s:ByteArray,s.data.toList=x/\s.size<=140737488355328/\w.cell? ⟨B,j,none⟩=some (.string s)/\w.frozen? ⟨B,j,none⟩=false
theorem er.keep{w w':World}{B n:Nat}{xs:List (List UInt8)}(h:er w B xs)(hb:Below n w w')(hB:B<n):er w' B xs:=λj x hx=>by
 obtain⟨s,h1,h2,h3,h4⟩:=h j x hx;exact⟨s,h1,h2,(hb.cell (p:=⟨B,j,none⟩) hB).trans h3,(hb.frozen (p:=⟨B,j,none⟩) hB).trans h4⟩
theorem er.store{w:World}{B:Nat}{xs:List (List UInt8)}(h:er w B xs){k:Nat}(hk:k<xs.length)(s:ByteArray)(hs:s.size<=140737488355328):er (w.setCell ⟨B,k,none⟩ (.string s)) B (xs.set k s.data.toList):=λj x hx=>by
 rw[List.getElem?_set] at hx;by_cases yX:k=j
 ·subst yX;rw[Qb rfl,Qb hk] at hx
  cases hx
  obtain⟨s0,_,_,h3,h4⟩:=h k _ (aQ hk);exact⟨s,rfl,hs,by simp[World.cell?_setCell_same,h3],(World.frozen?_setCell _ _ _ _).trans h4⟩
 ·rw[Qc yX] at hx;obtain⟨s0,h1,h2,h3,h4⟩:=h j x hx;exact⟨s0,h1,h2,by rw[xQ _ _ _ _ (by simp <;> omega)];exact h3,(World.frozen?_setCell _ _ _ _).trans h4⟩
theorem er.other{w:World}{B:Nat}{xs:List (List UInt8)}(h:er w B xs){p:Addr}(hp:p.block≠B)(u:Value):er (w.setCell p u) B xs:=λj x hx=>by
 obtain⟨s,h1,h2,h3,h4⟩:=h j x hx;exact⟨s,h1,h2,(xQ _ _ _ _ (λe=>hp (by rw[e]))).trans h3,(World.frozen?_setCell _ _ _ _).trans h4⟩
theorem er.slr{w:World}{B:Nat}{xs:List (List UInt8)}(h:er w B xs)(hB:B<w.heap.size)(hl:xs.length<=140737488355328):SlR RTx 1 w w.heap.size (.slice (some ⟨B,0,none⟩) xs.length xs.length) xs:=
 ⟨_,_,rfl,bQ _,hl,λj x hx=>by
  obtain⟨s,h1,h2,h3,_⟩:=h j x hx;refine⟨B,0,[.string s],rfl,hB,rfl,λi v hv=>?_,s,h1,h2,rfl⟩
  match i,hv with
  | 0,hv=>cases hv;simpa using h3⟩
theorem Nz{bs:List (List UInt8)}{n k:Nat}{b:List UInt8}(hn:bs.length=n)(hb:bs[k]?=some b):(bs.take k++List.replicate (n - k) []).set k b=bs.take (k+1)++List.replicate (n - (k+1)) []:=by
 obtain⟨hk,rfl⟩:=cQ.1 hb;have e:n - k=(n - (k+1))+1:=by omega
 rw[e,List.replicate_succ,List.set_append_right _ _ (by rw[List.length_take];omega),List.length_take,show k - min k bs.length=0 by omega,List.set_cons_zero,fQ hk,List.append_assoc];rfl
structure LayK(w:World)(M Bl Bs:Nat)(a:ByteArray)(v sl:Value)(kv:List (List UInt8×Value))(wr:World)(bs:List (List UInt8)):Prop where
 below:Below w.heap.size w wr
 b0:wr.cell? ⟨w.heap.size,0,none⟩=some (.string a)
 b1:wr.cell? ⟨w.heap.size,1,none⟩=some v
 r0:wr.cell? ⟨w.heap.size+1,0,none⟩=some (.string ⟨#[]⟩)
 r1:wr.cell? ⟨w.heap.size+1,1,none⟩=some (.slice none 0 0)
 r2:wr.cell? ⟨w.heap.size+1,2,none⟩=some (.slice none 0 0)
 l0:wr.cell? ⟨Bl,0,none⟩=some (.string a)
 l1:wr.cell? ⟨Bl,1,none⟩=some v
 l2:wr.cell? ⟨Bl,2,none⟩=some sl
 map:di M kv wr
 row:er wr Bs bs
 blt:Bl<wr.heap.size
 slt:Bs<wr.heap.size
 rf:∀ j,wr.frozen? ⟨w.heap.size+1,j,none⟩=false
structure LayB(n M Bl Bs:Nat):Prop where
 map:n+2=M
 lay:M<Bl
 row:M<Bs
 ne:Bl≠Bs
theorem LayK.keep{w:World}{M Bl Bs:Nat}{a:ByteArray}{v sl:Value}{kv:List (List UInt8×Value)}{wr wx:World}{bs:List (List UInt8)}(h:LayK w M Bl Bs a v sl kv wr bs)(hB:LayB w.heap.size M Bl Bs)(hb:Below wr.heap.size wr wx):LayK w M Bl Bs a v sl kv wx bs:=by
 have h1:=hB.map;have h2:=hB.lay;have h3:=h.blt;have h4:=h.slt;have h5:=h.map.lt;have al:=hb.size;exact⟨h.below.trans (hb.mono h.below.size),(hb.cell (by simp <;> omega)).trans h.b0,(hb.cell (by simp <;> omega)).trans h.b1,(hb.cell (by simp <;> omega)).trans h.r0,(hb.cell (by simp <;> omega)).trans h.r1,(hb.cell (by simp <;> omega)).trans h.r2,
  (hb.cell (by simp <;> omega)).trans h.l0,(hb.cell (by simp <;> omega)).trans h.l1,(hb.cell (by simp <;> omega)).trans h.l2,h.map.keep hb h5,h.row.keep hb h4,by omega,by omega,λj=>(hb.frozen (by simp <;> omega)).trans (h.rf j)⟩
theorem di.setCell{r:Nat}{kvs:List (List UInt8×Value)}{w:World}(h:di r kvs w){p:Addr}(hp:p.block≠r)(u:Value):di r kvs (w.setCell p u):=by
 obtain⟨es,c,h1,h2⟩:=h;exact⟨es,c,(wQ _ _ _ _ (λe=>hp e.symm)).trans h1,h2⟩
theorem LayK.store{w:World}{M Bl Bs:Nat}{a:ByteArray}{v sl:Value}{kv:List (List UInt8×Value)}{wr:World}{bs:List (List UInt8)}(h:LayK w M Bl Bs a v sl kv wr bs)(hB:LayB w.heap.size M Bl Bs){k:Nat}(hk:k<bs.length)(s:ByteArray)(hs:s.size<=140737488355328):LayK w M Bl Bs a v sl kv (wr.setCell ⟨Bs,k,none⟩ (.string s)) (bs.set k s.data.toList):=by
 have h1:=hB.map;have h2:=hB.lay;have h3:=hB.row;have h4:=hB.ne;exact⟨h.below.setCell (by simp <;> omega) _,(xQ _ _ _ _ (by simp <;> omega)).trans h.b0,(xQ _ _ _ _ (by simp <;> omega)).trans h.b1,(xQ _ _ _ _ (by simp <;> omega)).trans h.r0,(xQ _ _ _ _ (by simp <;> omega)).trans h.r1,(xQ _ _ _ _ (by simp <;> omega)).trans h.r2,
  (xQ _ _ _ _ (by simp <;> omega)).trans h.l0,(xQ _ _ _ _ (by simp <;> omega)).trans h.l1,(xQ _ _ _ _ (by simp <;> omega)).trans h.l2,h.map.setCell (by simp <;> omega) _,h.row.store hk s hs,by simpa using h.blt,by simpa using h.slt,λj=>(World.frozen?_setCell _ _ _ _).trans (h.rf j)⟩
def Jv(w:World)(M Bl Bs:Nat)(a:ByteArray)(v sl:Value)(kv:List (List UInt8×Value))(B:List (List UInt8))(C:List UInt8->Bool)(l:List Np.Signed)(vc i:Value)(wr:World):Prop:=
 ∃ (k:Nat) (sc:ByteArray),k<=l.length/\i = .int .i64 k/\vc = .string sc/\sc.size<=140737488355328/\Hid (LayK w M Bl Bs a v sl kv wr (B.take k++List.replicate (l.length - k) []))/\Hid (sc.data.toList = []\/Np.aD sc.data.toList=true)/\Hid (B.drop k=Np.mJ C sc.data.toList (l.drop k))
def LayA(M:Nat)(w1:World)(a:List UInt8)(l:List Np.Signed)(i:Value)(wr:World):Prop:=
 ∃ k:Nat,k<=l.length/\i = .int .i64 k/\Hid (Below M w1 wr)/\Hid (di M (fq a (l.take k)) wr)
theorem Wk(a:ByteArray)(v:Value)(l:List Np.Signed)(bn:l.length<=20000)(hv:∀ x∈l,Np.aD x.set.name=true)(hs:Np.sY l)(w:World)(hd:SlR cA 5 w w.heap.size v l) :
 Calls prog 200 #[.agg #[.string a,v]] w λe w'=>(∃ bv,e = .returned (.agg #[.string a,v,bv])/\SlR RTx 1 w' w'.heap.size bv (Np.dE ⟨a.data.toList,l⟩))/\Below w.heap.size w w':=by
 obtain⟨B,BU⟩:=abK (Np.dE ⟨a.data.toList,l⟩);rw[BU];have dp:=jq BU;have eT:Hid (B.length=l.length):=jq (by rw[<-BU];exact Np.qU _);clear BU;have HV:=jq hv;have HS:=jq hs;have HD:=jq hd;obtain⟨A,c,rfl,aW,bh⟩:=aj hd;clear hv hs hd;have tF:∀ (w:World),(Instr.makeMap 111 none).run prog w = .ok (.map (some w.heap.size)) (w.alloc (.map #[] 0)):=λw=>by
  simp[Instr.makeMap,Result.andThen]
 have HW:Hid (∀ o o' o'',Below w.heap.size w (((w.alloc o).alloc o').alloc o'')):=jq (λo o' o''=>(((vQ _ w).alloc (bQ _) _).alloc (by simp) _).alloc (by simp;omega) _);go_enter func200,ntmps200;go_wp2_with fail;obtain⟨w1,ak⟩:=abK (((w.alloc (.cells #[.string a,.slice A l.length c] 263)).alloc (.cells #[.string ⟨#[]⟩,.slice none 0 0,.slice none 0 0] 265)).alloc (.map #[] 0));have c0:w1.cell? ⟨w.heap.size,0,none⟩=some (.string a):=by rw[<-ak];simp[go_sem]
 have c1:w1.cell? ⟨w.heap.size,1,none⟩=some (.slice A l.length c):=by rw[<-ak];simp[go_sem]
 have e0:w1.cell? ⟨w.heap.size+1,0,none⟩=some (.string ⟨#[]⟩):=by rw[<-ak];simp[go_sem]
 have e1:w1.cell? ⟨w.heap.size+1,1,none⟩=some (.slice none 0 0):=by rw[<-ak];simp[go_sem]
 have e2:w1.cell? ⟨w.heap.size+1,2,none⟩=some (.slice none 0 0):=by rw[<-ak];simp[go_sem]
 have bU:w1.heap.size=w.heap.size+3:=by rw[<-ak];simp
 have IR:Hid (di (w.heap.size+1+1) [] w1):=jq (by
  have:=di.made ((w.alloc (.cells #[.string a,.slice A l.length c] 263)).alloc (.cells #[.string ⟨#[]⟩,.slice none 0 0,.slice none 0 0] 265))
  rw[<-ak];simpa using this)
 have ar:Hid (Below w.heap.size w w1):=jq (by rw[<-ak];exact HW.out _ _ _);have PA:Hid (∀ j,w1.frozen? ⟨w.heap.size+1,j,none⟩=false):=jq (λj=>by rw[<-ak];simp[go_sem]);have HC:=jq (And.intro c0 (And.intro c1 (And.intro e0 (And.intro e1 e2))));rw[ak];clear ak c0 c1 e0 e1 e2;obtain⟨M,hM⟩:=abK (w.heap.size+1+1);rw[hM] at IR |-;go_loopw [18] (λi wr=>LayA M w1 a.data.toList l i wr) (λi _=>l.length - (intOf i).toNat)
 case atStart=>exact⟨0,jQ _,rfl,jq (vQ _ _),IR⟩
 case round=>
  obtain⟨k,hk,rfl,HB,HM⟩:=hrel;have al:=HB.out.size;obtain⟨c0,c1,e0,e1,e2⟩:=HC.out;have d0:wr.cell? ⟨w.heap.size,0,none⟩=some (.string a):=by rw[HB.out.cell (by simp;omega)];exact c0
  have d1:wr.cell? ⟨w.heap.size,1,none⟩=some (.slice A l.length c):=by rw[HB.out.cell (by simp;omega)];exact c1
  have oH:=HM.out.lt;have bO:w.heap.size<wr.heap.size:=by omega
  have az:Hid (Below w.heap.size w wr):=abJ ar HB.out;have PG:Hid (∀ j,wr.frozen? ⟨w.heap.size+1,j,none⟩=false):=jq (λj=>(HB.out.frozen (p:=⟨w.heap.size+1,j,none⟩) (by dsimp only;omega)).trans (PA.out j));have wN:Hid (wr.cell? ⟨w.heap.size+1,0,none⟩=some (.string ⟨#[]⟩)/\wr.cell? ⟨w.heap.size+1,1,none⟩=some (.slice none 0 0)/\wr.cell? ⟨w.heap.size+1,2,none⟩=some (.slice none 0 0)):=jq ⟨(HB.out.cell (by dsimp only;omega)).trans e0,(HB.out.cell (by dsimp only;omega)).trans e1,(HB.out.cell (by dsimp only;omega)).trans e2⟩;clear c0 c1 e0 e1 e2;by_cases aa:k<l.length
  ·have ac:=aQ aa;obtain⟨b,o,c',sn,dv,sv,hA,bp,_,aw,cE,aR,aN,f0,f1,f2,f3,f4⟩:=fk (HD.out.keep bI az.out) ac
   cases hA
   have ht:l.take (k+1)=l.take k ++ [l[k]]:=fQ aa;have P3:Hid (l[k].set.type=2->(fq a.data.toList (l.take k)).lookup sn.data.toList=none):=jq (λh2=>by
    refine (BE _ _ _).2 λy hy h3 he=>?_;obtain⟨j,hj,rfl⟩:=nQ.1 hy;rw[List.length_take] at hj;have h4:=Ha HS.out (aQ (show j<l.length by omega)) ac (by omega);rw[List.getElem_take] at h3 he;have h5:Np.dP l[j].set=Np.dP l[k].set:=by unfold Np.dP;rw[h3,h2,he,aw]
    rw[h5,Np.wg.self] at h4;omega)
   have HT:Hid (∀ kv,(if l[k].set.type=2/\l[k].set.name≠a.data.toList then fq a.data.toList (l.take k) ++ [(l[k].set.name,.bool true)] else fq a.data.toList (l.take k))=kv->fq a.data.toList (l.take (k+1))=kv):=jq (λkv h=>by rw[ht,RV];exact h);generalize hx:l[k]=x at *;clear hx ht;obtain⟨Ad,cd,rfl,_,_⟩:=aj aR;obtain⟨As,cs,rfl,_,_⟩:=aj aN;have aS:=jq aw;have eS:Hid (∀ o,Below wr.heap.size wr (wr.alloc o)):=jq (λo=>(vQ _ _).alloc (bQ _) _);have ba:Hid (∀ o,Below M w1 (wr.alloc o)):=jq (λo=>HB.out.alloc (by omega) _);clear ac aw aR aN;by_cases h2:x.set.type=2
   ·have ab:(x.set.type == 2)=true:=by simpa using h2
    by_cases hn:x.set.name=a.data.toList
    ·have gS:(!sn.toList == a.toList)=false:=by rw[dQ,dQ,aS.out,hn];simp
     have jK:=jq (HT.out _ (Qc λh=>h.2 hn));clear h2 hn;go_wp2_with fail;go_roundw
     case rel=>exact⟨k+1,by omega,by go_num,jq (ba.out _),jq (by rw[jK.out];exact HM.out.keep (eS.out _) oH)⟩
     case measure=>simp[intOf] <;> omega
    ·have gS:(!sn.toList == a.toList)=true:=by rw[dQ,dQ,aS.out];simpa using hn
     have jK:=jq (HT.out _ (Qb ⟨h2,hn⟩));have la:=jq (P3.out h2);clear h2 hn;go_wp2_with (at_mapUpdate;refine OF _ rfl _ _ _ 111 rfl 9 4 underlying111 underlying9 M (fq a.data.toList (l.take k)) rfl (HM.out.keep (eS.out _) oH) sn.data.toList rfl (.bool true) rfl la.out ?_;intro w5 lD kG;have H5:=jq (And.intro lD kG);clear lD kG);go_roundw
     case rel=>exact⟨k+1,by omega,by go_num,jq ((ba.out _).trans (H5.out.2.below (bQ _))),jq (by rw[jK.out,<-aS.out];exact H5.out.1)⟩
     case measure=>simp[intOf] <;> omega
   ·have ab:(x.set.type == 2)=false:=by simpa using h2
    have jK:=jq (HT.out _ (Qc λh=>h2 h.1));clear h2;go_wp2_with fail;go_roundw
    case rel=>exact⟨k+1,by omega,by go_num,jq (ba.out _),jq (by rw[jK.out];exact HM.out.keep (eS.out _) oH)⟩
    case measure=>simp[intOf] <;> omega
  ·have lA:k=l.length:=by omega
   subst lA;rw[List.take_length] at HM;go_wp2_with fail;have fu:=GR l.length bn;have HZ:Hid (∀ j,j<l.length->(madeCells #[Value.string ⟨#[]⟩] l.length)[j]?=some (.string ⟨#[]⟩)):=jq (λj hj=>GQ _ _ hj);generalize madeCells #[Value.string ⟨#[]⟩] l.length=Z at fu HZ;have AR:=jq (And.intro d0 d1);have Bg:Hid (∀ (Bl Bs:Nat) (w5:World),Below wr.heap.size wr w5->M<Bl->M<Bs->Bl≠Bs->Bl<w5.heap.size->Bs<w5.heap.size->w5.cell? ⟨Bl,0,none⟩=some (.string a)->w5.cell? ⟨Bl,1,none⟩=some (.slice A l.length c)->w5.cell? ⟨Bl,2,none⟩=some (.slice (some ⟨Bs,0,none⟩) l.length l.length)->(∀ j,j<l.length->w5.cell? ⟨Bs,j,none⟩=some (.string ⟨#[]⟩))->(∀ j,w5.frozen? ⟨Bs,j,none⟩=false)->
    LayB w.heap.size M Bl Bs/\LayK w M Bl Bs a (.slice A l.length c) (.slice (some ⟨Bs,0,none⟩) l.length l.length) (fq a.data.toList l) w5 (List.replicate l.length [])):=jq (λBl Bs w5 hb h1 h2 h3 h4 h5 k0 k1 k2 hz tu=>by
    refine⟨⟨by omega,h1,h2,h3⟩,az.out.trans (hb.acQ),(hb.cell (by dsimp only;omega)).trans AR.out.1,(hb.cell (by dsimp only;omega)).trans AR.out.2,(hb.cell (by dsimp only;omega)).trans wN.out.1,(hb.cell (by dsimp only;omega)).trans wN.out.2.1,(hb.cell (by dsimp only;omega)).trans wN.out.2.2,k0,k1,k2,HM.out.keep hb oH,λj x hx=>?_,h4,h5,λj=>(hb.frozen (by dsimp only;omega)).trans (PG.out j)⟩;rw[List.getElem?_replicate] at hx;split at hx
    ·rename_i hj
     cases hx
     exact⟨⟨#[]⟩,rfl,by decide,hz j hj,tu j⟩
    ·cases hx)
   go_region
   ·obtain⟨w5,aJ⟩:=abK (((wr.alloc (.cells Z 9)).alloc (.cells #[.string a,.slice A l.length c,.slice (some ⟨wr.heap.size,0,none⟩) l.length l.length] 265)).drew);have aF:Below wr.heap.size wr w5:=by rw[<-aJ];exact (((vQ _ _).alloc (bQ _) _).alloc (by simp) _).drew
    have hp:=Bg.out (wr.heap.size+1) wr.heap.size w5 aF (by omega) (by omega) (by omega) (by rw[<-aJ];simp) (by rw[<-aJ];simp;omega) (by rw[<-aJ];simp[go_sem]) (by rw[<-aJ];simp[go_sem]) (by rw[<-aJ];simp[go_sem]) (λj hj=>by rw[<-aJ];simp[go_sem];exact HZ.out j hj) (λj=>by rw[<-aJ];simp[go_sem]);rw[aJ];obtain⟨yd,ye⟩:=hp;have iI:=jq yd;have pB:=jq ye;clear aJ aF yd ye fu Bg HZ wN AR HB az d0 d1;generalize wr.heap.size+1=X1 at *;generalize wr.heap.size=X0 at *;have c50:=pB.out.b0;have c51:=pB.out.b1;go_wp2_with fail;clear c50 c51;go_loopw [7,51] (λvc i wr=>Jv w M X1 X0 a (.slice A l.length c) (.slice (some ⟨X0,0,none⟩) l.length l.length) (fq a.data.toList l) B (Np.cj ⟨a.data.toList,l⟩) l vc i wr) (λ_ i _=>l.length - (intOf i).toNat)
    case atStart=>exact⟨0,⟨#[]⟩,jQ _,rfl,rfl,by decide,jq pB.out,jq (.inl rfl),jq (by rw[<-dp.out];rfl)⟩
    case round=>
     obtain⟨k,sc,hk,rfl,rfl,j8,HK,sT,HE⟩:=hrel;have lz:=HK.out.l2;have bq:=HK.out.blt;have uZ:=HK.out.slt;have oH:=HK.out.map.lt;have kH:=HK.out.below.size;by_cases aa:k<l.length
     ·have ac:=aQ aa;obtain⟨b,o,c',sn,dv,sv,hA,bp,_,aw,cE,aR,aN,f0,f1,f2,f3,f4⟩:=fk (HD.out.keep bI HK.out.below) ac
      cases hA
      have f8:Hid (Np.aD sn.data.toList=true):=jq (by rw[aw];exact HV.out _ (List.getElem_mem aa));have cP:Hid (B[k]?=some (Np.cZ (Np.cj ⟨a.data.toList,l⟩) sc.data.toList sn.data.toList)/\B.drop (k+1)=Np.mJ (Np.cj ⟨a.data.toList,l⟩) (Np.cZ (Np.cj ⟨a.data.toList,l⟩) sc.data.toList sn.data.toList) (l.drop (k+1))):=jq (by
       have h1:=HE.out;rw[sQ aa,Np.mJ,<-aw] at h1;refine⟨?_,?_⟩
       ·have:=List.getElem?_drop (xs:=B) (i:=k) (j:=0)
        rw[h1,Nat.add_zero] at this;exact this.symm
       ·have:=Qd (List.drop 1) h1
        rw[List.drop_drop] at this;simpa using this)
      obtain⟨s0,_,_,gW,iP⟩:=HK.out.row k [] (by
       rw[oQ (by rw[List.length_take];omega),List.length_take,eT.out,show k - min k l.length=0 by omega,List.getElem?_replicate,Qb (by omega)])
      have jJ:Hid (∀ (wx:World) (s:ByteArray),Below wr.heap.size wr wx->s.size<=140737488355328->s.data.toList=Np.cZ (Np.cj ⟨a.data.toList,l⟩) sc.data.toList sn.data.toList->LayK w M X1 X0 a (.slice (some ⟨b,o,none⟩) l.length c) (.slice (some ⟨X0,0,none⟩) l.length l.length) (fq a.data.toList l) (wx.setCell ⟨X0,k,none⟩ (.string s)) (B.take (k+1)++List.replicate (l.length - (k+1)) [])):=jq (λwx s hb al hs=>by
       rw[<-Nz eT.out cP.out.1,<-hs];exact (HK.out.keep iI.out hb).store iI.out (by rw[List.length_append,List.length_take,List.length_replicate,eT.out];omega) s al)
      have Eg:=jq HK.out.map;have eS:Hid (∀ o,Below wr.heap.size wr (wr.alloc o)):=jq (λo=>(vQ _ _).alloc (bQ _) _);generalize hx:l[k]=x at *;clear hx ac;obtain⟨Ad,cd,rfl,_,_⟩:=aj aR;obtain⟨As,cs,rfl,_,_⟩:=aj aN;clear aw aR aN;have bL:(0:Int)<=(k:Int):=by omega
      have bY:(k:Int)<(l.length:Int):=by omega
      obtain⟨cb,ku⟩:=abK (Np.cj ⟨a.data.toList,l⟩ sn.data.toList);have my:=jq ku;have lP:Hid (((fq a.data.toList l).lookup sn.data.toList).getD (.bool false) = .bool cb):=jq (by rw[<-ku];exact (BE _ _ l).1);clear ku;have sG:Hid (∀ wx,Below wr.heap.size wr wx->Sem.run prog (Instr.lookup 111 (.map (some M)) (.string sn) false) wx = .ok (.bool cb) wx):=jq (λwx hb=>by
       have:=G6 (P:=prog) wx 111 9 4 underlying111 underlying9 M (fq a.data.toList l) (Eg.out.keep hb oH) sn.data.toList (.bool false) (by kernel_rfl)
       rw[lP.out] at this;exact this)
      by_cases hce:sc.data.toList = []
      ·obtain rfl:sc=⟨#[]⟩:=jD hce;have eV:Hid (cb=true->sn.data.toList=Np.cZ (Np.cj ⟨a.data.toList,l⟩) [] sn.data.toList):=jq (λh=>by
        unfold Np.cZ;rw[my.out,h];simp)
       have jN:Hid (cb=false->[]=Np.cZ (Np.cj ⟨a.data.toList,l⟩) [] sn.data.toList):=jq (λh=>by
        unfold Np.cZ;rw[my.out,h];simp)
       clear hce
       cases cb with
       | true=>
        have gC:∀ o,Sem.run prog (Instr.lookup 111 (.map (some M)) (.string sn) false) (wr.alloc o) = .ok (.bool true) (wr.alloc o):=λo=>sG.out _ (eS.out o);go_wp2_with fail;go_roundw
        case rel=>exact⟨k+1,sn,by omega,by go_num,rfl,cE,jq ((jJ.out wr sn (vQ _ _) cE (eV.out (by simp))).keep iI.out ((vQ _ _).alloc (bQ _) _)),jq (.inr f8.out),jq (by rw[eV.out (by simp)];exact cP.out.2)⟩
        case measure=>simp[intOf] <;> omega
       | false=>
        have gC:∀ o,Sem.run prog (Instr.lookup 111 (.map (some M)) (.string sn) false) (wr.alloc o) = .ok (.bool false) (wr.alloc o):=λo=>sG.out _ (eS.out o);go_wp2_with fail;go_roundw
        case rel=>exact⟨k+1,⟨#[]⟩,by omega,by go_num,rfl,by decide,jq ((jJ.out wr ⟨#[]⟩ (vQ _ _) (by decide) (jN.out (by simp))).keep iI.out ((vQ _ _).alloc (bQ _) _)),jq (.inl rfl),jq (by rw[show (⟨#[]⟩:ByteArray).data.toList = [] from rfl,jN.out (by simp)];exact cP.out.2)⟩
        case measure=>simp[intOf] <;> omega
      ·have UD:(!sc.toList == [])=true:=by rw[dQ];simpa using hce
       have zg:(sc.toList == [])=false:=by rw[dQ];simpa using hce
       have je:Hid (Np.aD sc.data.toList=true):=jq (sT.out.resolve_left hce);have ie:=jq hce;have Te:M<wr.heap.size:=oH;clear hce;go_wp2_with fail;refine (Hp sn sc cE j8 _ f8.out je.out).mono ?_;rintro e w2 ⟨rfl,ab⟩;have ai:=jq ((eS.out _).trans (ab.mono (by simp)));have cY:w2.cell? ⟨X1,2,none⟩=some (.slice (some ⟨X0,0,none⟩) l.length l.length):=abZ ai.out lz;have fU:w2.cell? ⟨X0,k,none⟩=some (.string s0):=abZ ai.out gW;have aO:=ai.out.size;have FZ:w2.frozen? ⟨X0,k,none⟩=false:=(ai.out.frozen (by dsimp only;omega)).trans iP;clear ab lz gW iP
       cases eP:Np.aZ sn.data.toList sc.data.toList with
       | true=>
        have eV:Hid (sc.data.toList=Np.cZ (Np.cj ⟨a.data.toList,l⟩) sc.data.toList sn.data.toList):=jq (by
         unfold Np.cZ;simp[ie.out,eP])
        clear eP;go_wp2_with fail;go_roundw
        case rel=>exact⟨k+1,sc,by omega,by go_num,rfl,j8,jq (jJ.out _ sc ai.out j8 eV.out),jq (.inr je.out),jq (by rw[eV.out];exact cP.out.2)⟩
        case measure=>simp[intOf] <;> omega
       | false=>
        have eV:Hid (cb=true->sn.data.toList=Np.cZ (Np.cj ⟨a.data.toList,l⟩) sc.data.toList sn.data.toList):=jq (λh=>by
         unfold Np.cZ;rw[my.out,h];simp[eP,ie.out])
        have jN:Hid (cb=false->[]=Np.cZ (Np.cj ⟨a.data.toList,l⟩) sc.data.toList sn.data.toList):=jq (λh=>by
         unfold Np.cZ;rw[my.out,h];simp[eP,ie.out])
        clear eP;have gC:=sG.out w2 ai.out
        cases cb with
        | true=>
         go_wp2_with fail;go_roundw
         case rel=>exact⟨k+1,sn,by omega,by go_num,rfl,cE,jq (jJ.out _ sn ai.out cE (eV.out (by simp))),jq (.inr f8.out),jq (by rw[eV.out (by simp)];exact cP.out.2)⟩
         case measure=>simp[intOf] <;> omega
        | false=>
         go_wp2_with fail;go_roundw
         case rel=>exact⟨k+1,⟨#[]⟩,by omega,by go_num,rfl,by decide,jq (jJ.out _ ⟨#[]⟩ ai.out (by decide) (jN.out (by simp))),jq (.inl rfl),jq (by rw[show (⟨#[]⟩:ByteArray).data.toList = [] from rfl,jN.out (by simp)];exact cP.out.2)⟩
         case measure=>simp[intOf] <;> omega
     ·have yY:k=l.length:=by omega
      have kW:Hid (B.take k++List.replicate (l.length - k) []=B):=jq (by rw[yY,Nat.sub_self,List.replicate_zero,List.append_nil,kQ (by rw[eT.out];exact bQ _)]);clear yY;have g0:=HK.out.l0;have g1:=HK.out.l1;have r0:=HK.out.r0;have r1:=HK.out.r1;have r2:=HK.out.r2;have rf0:=HK.out.rf 0;have rf1:=HK.out.rf 1;have rf2:=HK.out.rf 2;go_wp2_with fail;obtain⟨w6,dC⟩:=abK (((wr.setCell ⟨w.heap.size+1,0,none⟩ (.string a)).setCell ⟨w.heap.size+1,1,none⟩ (.slice A l.length c)).setCell ⟨w.heap.size+1,2,none⟩ (.slice (some ⟨X0,0,none⟩) l.length l.length));have q0:w6.cell? ⟨w.heap.size+1,0,none⟩=some (.string a):=by rw[<-dC];simp[go_sem,r0]
      have q1:w6.cell? ⟨w.heap.size+1,1,none⟩=some (.slice A l.length c):=by rw[<-dC];simp[go_sem,r1]
      have q2:w6.cell? ⟨w.heap.size+1,2,none⟩=some (.slice (some ⟨X0,0,none⟩) l.length l.length):=by rw[<-dC];simp[go_sem,r2]
      have h1:=iI.out.map;have h2:=iI.out.row;have cF:Hid (Below w.heap.size w w6):=jq (by rw[<-dC];exact ((HK.out.below.setCell (by simp) _).setCell (by simp) _).setCell (by simp) _);have xw:Hid (SlR RTx 1 w6 w6.heap.size (.slice (some ⟨X0,0,none⟩) l.length l.length) B):=jq (by
       have h3:=HK.out.row;rw[kW.out] at h3;have h4:=((h3.other (p:=⟨w.heap.size+1,0,none⟩) (by simp;omega) (.string a)).other (p:=⟨w.heap.size+1,1,none⟩) (by simp;omega) (.slice A l.length c)).other (p:=⟨w.heap.size+1,2,none⟩) (by simp;omega) (.slice (some ⟨X0,0,none⟩) l.length l.length);rw[dC] at h4;have h5:=h4.slr (by rw[<-dC];simp;omega) (by rw[eT.out];omega);rw[eT.out] at h5;exact h5)
      rw[dC];clear dC r0 r1 r2 rf0 rf1 rf2 g0 g1 lz;refine bodyPost_ret (v:=.agg #[.string a,.slice A l.length c,.slice (some ⟨X0,0,none⟩) l.length l.length]) ?_ rfl ⟨⟨_,rfl,xw.out⟩,cF.out⟩;simp[results,results200,go_sem,q0,q1,q2]
   ·obtain⟨w5,aJ⟩:=abK (((wr.alloc (.cells #[.string a,.slice A l.length c,.slice (some ⟨wr.heap.size+1,0,none⟩) l.length l.length] 265)).alloc (.cells Z 9)).drew);have aF:Below wr.heap.size wr w5:=by rw[<-aJ];exact (((vQ _ _).alloc (bQ _) _).alloc (by simp) _).drew
    have hp:=Bg.out wr.heap.size (wr.heap.size+1) w5 aF (by omega) (by omega) (by omega) (by rw[<-aJ];simp;omega) (by rw[<-aJ];simp) (by rw[<-aJ];simp[go_sem]) (by rw[<-aJ];simp[go_sem]) (by rw[<-aJ];simp[go_sem]) (λj hj=>by rw[<-aJ];simp[go_sem];exact HZ.out j hj) (λj=>by rw[<-aJ];simp[go_sem]);rw[aJ];obtain⟨yd,ye⟩:=hp;have iI:=jq yd;have pB:=jq ye;clear aJ aF yd ye fu Bg HZ wN AR HB az d0 d1;generalize wr.heap.size+1=X0 at *;generalize wr.heap.size=X1 at *;have c50:=pB.out.b0;have c51:=pB.out.b1;go_wp2_with fail;clear c50 c51;go_loopw [7,51] (λvc i wr=>Jv w M X1 X0 a (.slice A l.length c) (.slice (some ⟨X0,0,none⟩) l.length l.length) (fq a.data.toList l) B (Np.cj ⟨a.data.toList,l⟩) l vc i wr) (λ_ i _=>l.length - (intOf i).toNat)
    case atStart=>exact⟨0,⟨#[]⟩,jQ _,rfl,rfl,by decide,jq pB.out,jq (.inl rfl),jq (by rw[<-dp.out];rfl)⟩
    case round=>
     obtain⟨k,sc,hk,rfl,rfl,j8,HK,sT,HE⟩:=hrel;have lz:=HK.out.l2;have bq:=HK.out.blt;have uZ:=HK.out.slt;have oH:=HK.out.map.lt;have kH:=HK.out.below.size;by_cases aa:k<l.length
     ·have ac:=aQ aa;obtain⟨b,o,c',sn,dv,sv,hA,bp,_,aw,cE,aR,aN,f0,f1,f2,f3,f4⟩:=fk (HD.out.keep bI HK.out.below) ac
      cases hA
      have f8:Hid (Np.aD sn.data.toList=true):=jq (by rw[aw];exact HV.out _ (List.getElem_mem aa));have cP:Hid (B[k]?=some (Np.cZ (Np.cj ⟨a.data.toList,l⟩) sc.data.toList sn.data.toList)/\B.drop (k+1)=Np.mJ (Np.cj ⟨a.data.toList,l⟩) (Np.cZ (Np.cj ⟨a.data.toList,l⟩) sc.data.toList sn.data.toList) (l.drop (k+1))):=jq (by
       have h1:=HE.out;rw[sQ aa,Np.mJ,<-aw] at h1;refine⟨?_,?_⟩
       ·have:=List.getElem?_drop (xs:=B) (i:=k) (j:=0)
        rw[h1,Nat.add_zero] at this;exact this.symm
       ·have:=Qd (List.drop 1) h1
        rw[List.drop_drop] at this;simpa using this)
      obtain⟨s0,_,_,gW,iP⟩:=HK.out.row k [] (by
       rw[oQ (by rw[List.length_take];omega),List.length_take,eT.out,show k - min k l.length=0 by omega,List.getElem?_replicate,Qb (by omega)])
      have jJ:Hid (∀ (wx:World) (s:ByteArray),Below wr.heap.size wr wx->s.size<=140737488355328->s.data.toList=Np.cZ (Np.cj ⟨a.data.toList,l⟩) sc.data.toList sn.data.toList->LayK w M X1 X0 a (.slice (some ⟨b,o,none⟩) l.length c) (.slice (some ⟨X0,0,none⟩) l.length l.length) (fq a.data.toList l) (wx.setCell ⟨X0,k,none⟩ (.string s)) (B.take (k+1)++List.replicate (l.length - (k+1)) [])):=jq (λwx s hb al hs=>by
       rw[<-Nz eT.out cP.out.1,<-hs];exact (HK.out.keep iI.out hb).store iI.out (by rw[List.length_append,List.length_take,List.length_replicate,eT.out];omega) s al)
      have Eg:=jq HK.out.map;have eS:Hid (∀ o,Below wr.heap.size wr (wr.alloc o)):=jq (λo=>(vQ _ _).alloc (bQ _) _);generalize hx:l[k]=x at *;clear hx ac;obtain⟨Ad,cd,rfl,_,_⟩:=aj aR;obtain⟨As,cs,rfl,_,_⟩:=aj aN;clear aw aR aN;have bL:(0:Int)<=(k:Int):=by omega
      have bY:(k:Int)<(l.length:Int):=by omega
      obtain⟨cb,ku⟩:=abK (Np.cj ⟨a.data.toList,l⟩ sn.data.toList);have my:=jq ku;have lP:Hid (((fq a.data.toList l).lookup sn.data.toList).getD (.bool false) = .bool cb):=jq (by rw[<-ku];exact (BE _ _ l).1);clear ku;have sG:Hid (∀ wx,Below wr.heap.size wr wx->Sem.run prog (Instr.lookup 111 (.map (some M)) (.string sn) false) wx = .ok (.bool cb) wx):=jq (λwx hb=>by
       have:=G6 (P:=prog) wx 111 9 4 underlying111 underlying9 M (fq a.data.toList l) (Eg.out.keep hb oH) sn.data.toList (.bool false) (by kernel_rfl)
       rw[lP.out] at this;exact this)
      by_cases hce:sc.data.toList = []
      ·obtain rfl:sc=⟨#[]⟩:=jD hce;have eV:Hid (cb=true->sn.data.toList=Np.cZ (Np.cj ⟨a.data.toList,l⟩) [] sn.data.toList):=jq (λh=>by
        unfold Np.cZ;rw[my.out,h];simp)
       have jN:Hid (cb=false->[]=Np.cZ (Np.cj ⟨a.data.toList,l⟩) [] sn.data.toList):=jq (λh=>by
        unfold Np.cZ;rw[my.out,h];simp)
       clear hce
       cases cb with
       | true=>
        have gC:∀ o,Sem.run prog (Instr.lookup 111 (.map (some M)) (.string sn) false) (wr.alloc o) = .ok (.bool true) (wr.alloc o):=λo=>sG.out _ (eS.out o);go_wp2_with fail;go_roundw
        case rel=>exact⟨k+1,sn,by omega,by go_num,rfl,cE,jq ((jJ.out wr sn (vQ _ _) cE (eV.out (by simp))).keep iI.out ((vQ _ _).alloc (bQ _) _)),jq (.inr f8.out),jq (by rw[eV.out (by simp)];exact cP.out.2)⟩
        case measure=>simp[intOf] <;> omega
       | false=>
        have gC:∀ o,Sem.run prog (Instr.lookup 111 (.map (some M)) (.string sn) false) (wr.alloc o) = .ok (.bool false) (wr.alloc o):=λo=>sG.out _ (eS.out o);go_wp2_with fail;go_roundw
        case rel=>exact⟨k+1,⟨#[]⟩,by omega,by go_num,rfl,by decide,jq ((jJ.out wr ⟨#[]⟩ (vQ _ _) (by decide) (jN.out (by simp))).keep iI.out ((vQ _ _).alloc (bQ _) _)),jq (.inl rfl),jq (by rw[show (⟨#[]⟩:ByteArray).data.toList = [] from rfl,jN.out (by simp)];exact cP.out.2)⟩
        case measure=>simp[intOf] <;> omega
      ·have UD:(!sc.toList == [])=true:=by rw[dQ];simpa using hce
       have zg:(sc.toList == [])=false:=by rw[dQ];simpa using hce
       have je:Hid (Np.aD sc.data.toList=true):=jq (sT.out.resolve_left hce);have ie:=jq hce;have Te:M<wr.heap.size:=oH;clear hce;go_wp2_with fail;refine (Hp sn sc cE j8 _ f8.out je.out).mono ?_;rintro e w2 ⟨rfl,ab⟩;have ai:=jq ((eS.out _).trans (ab.mono (by simp)));have cY:w2.cell? ⟨X1,2,none⟩=some (.slice (some ⟨X0,0,none⟩) l.length l.length):=abZ ai.out lz;have fU:w2.cell? ⟨X0,k,none⟩=some (.string s0):=abZ ai.out gW;have aO:=ai.out.size;have FZ:w2.frozen? ⟨X0,k,none⟩=false:=(ai.out.frozen (by dsimp only;omega)).trans iP;clear ab lz gW iP
       cases eP:Np.aZ sn.data.toList sc.data.toList with
       | true=>
        have eV:Hid (sc.data.toList=Np.cZ (Np.cj ⟨a.data.toList,l⟩) sc.data.toList sn.data.toList):=jq (by
         unfold Np.cZ;simp[ie.out,eP])
        clear eP;go_wp2_with fail;go_roundw
        case rel=>exact⟨k+1,sc,by omega,by go_num,rfl,j8,jq (jJ.out _ sc ai.out j8 eV.out),jq (.inr je.out),jq (by rw[eV.out];exact cP.out.2)⟩
        case measure=>simp[intOf] <;> omega
       | false=>
        have eV:Hid (cb=true->sn.data.toList=Np.cZ (Np.cj ⟨a.data.toList,l⟩) sc.data.toList sn.data.toList):=jq (λh=>by
         unfold Np.cZ;rw[my.out,h];simp[eP,ie.out])
        have jN:Hid (cb=false->[]=Np.cZ (Np.cj ⟨a.data.toList,l⟩) sc.data.toList sn.data.toList):=jq (λh=>by
         unfold Np.cZ;rw[my.out,h];simp[eP,ie.out])
        clear eP;have gC:=sG.out w2 ai.out
        cases cb with
        | true=>
         go_wp2_with fail;go_roundw
         case rel=>exact⟨k+1,sn,by omega,by go_num,rfl,cE,jq (jJ.out _ sn ai.out cE (eV.out (by simp))),jq (.inr f8.out),jq (by rw[eV.out (by simp)];exact cP.out.2)⟩
         case measure=>simp[intOf] <;> omega
        | false=>
         go_wp2_with fail;go_roundw
         case rel=>exact⟨k+1,⟨#[]⟩,by omega,by go_num,rfl,by decide,jq (jJ.out _ ⟨#[]⟩ ai.out (by decide) (jN.out (by simp))),jq (.inl rfl),jq (by rw[show (⟨#[]⟩:ByteArray).data.toList = [] from rfl,jN.out (by simp)];exact cP.out.2)⟩
         case measure=>simp[intOf] <;> omega
     ·have yY:k=l.length:=by omega
      have kW:Hid (B.take k++List.replicate (l.length - k) []=B):=jq (by rw[yY,Nat.sub_self,List.replicate_zero,List.append_nil,kQ (by rw[eT.out];exact bQ _)]);clear yY;have g0:=HK.out.l0;have g1:=HK.out.l1;have r0:=HK.out.r0;have r1:=HK.out.r1;have r2:=HK.out.r2;have rf0:=HK.out.rf 0;have rf1:=HK.out.rf 1;have rf2:=HK.out.rf 2;go_wp2_with fail;obtain⟨w6,dC⟩:=abK (((wr.setCell ⟨w.heap.size+1,0,none⟩ (.string a)).setCell ⟨w.heap.size+1,1,none⟩ (.slice A l.length c)).setCell ⟨w.heap.size+1,2,none⟩ (.slice (some ⟨X0,0,none⟩) l.length l.length));have q0:w6.cell? ⟨w.heap.size+1,0,none⟩=some (.string a):=by rw[<-dC];simp[go_sem,r0]
      have q1:w6.cell? ⟨w.heap.size+1,1,none⟩=some (.slice A l.length c):=by rw[<-dC];simp[go_sem,r1]
      have q2:w6.cell? ⟨w.heap.size+1,2,none⟩=some (.slice (some ⟨X0,0,none⟩) l.length l.length):=by rw[<-dC];simp[go_sem,r2]
      have h1:=iI.out.map;have h2:=iI.out.row;have cF:Hid (Below w.heap.size w w6):=jq (by rw[<-dC];exact ((HK.out.below.setCell (by simp) _).setCell (by simp) _).setCell (by simp) _);have xw:Hid (SlR RTx 1 w6 w6.heap.size (.slice (some ⟨X0,0,none⟩) l.length l.length) B):=jq (by
       have h3:=HK.out.row;rw[kW.out] at h3;have h4:=((h3.other (p:=⟨w.heap.size+1,0,none⟩) (by simp;omega) (.string a)).other (p:=⟨w.heap.size+1,1,none⟩) (by simp;omega) (.slice A l.length c)).other (p:=⟨w.heap.size+1,2,none⟩) (by simp;omega) (.slice (some ⟨X0,0,none⟩) l.length l.length);rw[dC] at h4;have h5:=h4.slr (by rw[<-dC];simp;omega) (by rw[eT.out];omega);rw[eT.out] at h5;exact h5)
      rw[dC];clear dC r0 r1 r2 rf0 rf1 rf2 g0 g1 lz;refine bodyPost_ret (v:=.agg #[.string a,.slice A l.length c,.slice (some ⟨X0,0,none⟩) l.length l.length]) ?_ rfl ⟨⟨_,rfl,xw.out⟩,cF.out⟩;simp[results,results200,go_sem,q0,q1,q2]
theorem pa{w:World}{B n c:Nat}{A:Option Addr}{xs:List (List UInt8)}(h:SlR RTx 1 w B (.slice A n c) xs){k:Nat}{x:List UInt8}(hx:xs[k]?=some x):∃ (b o:Nat) (s:ByteArray),A=some ⟨b,o,none⟩/\b<B/\s.data.toList=x/\s.size<=140737488355328/\w.cell? ⟨b,o+k,none⟩=some (.string s):=by
 obtain⟨A',c',hv,hc,_,he⟩:=h;simp only[Value.slice.injEq] at hv;obtain⟨rfl,_,_⟩:=hv;obtain⟨b,o,e,rfl,hb,_,hce,s,h1,h2,rfl⟩:=he k x hx;exact⟨b,o,s,rfl,hb,h1,h2,by have:=hce 0 _ rfl;simpa using this⟩
def Np.n9(l:List Np.Signed)(B:List (List UInt8)):Prop:=∀ (i:Nat) (x:Np.Signed) (b:List UInt8),l[i]?=some x->B[i]?=some b->Np.kR x.set b
def Np.xJ(l:List Np.Signed)(B:List (List UInt8)):Prop:=∀ (i:Nat) (x:Np.Signed) (b:List UInt8),l[i]?=some x->B[i]?=some b->b≠[]->x.set.type=2\/x.set.type=1->x.sigs = []
theorem Kb{x:Np.DSet}{b:List UInt8}(hb:b = []):Np.kR x b↔x.type≠6:=by
 subst hb;exact⟨λh=>h.1 rfl,λh=>⟨λ_=>h,λh2=>absurd rfl h2,λh2=>absurd rfl h2⟩⟩
theorem Kc{x:Np.DSet}{b:List UInt8}(hb:b≠[])(he:b=x.name):Np.kR x b↔(x.type=2\/x.type=6\/x.type=8\/x.type=1):=
 ⟨λh=>h.2.1 hb he,λh=>⟨λh2=>absurd h2 hb,λ_ _=>h,λ_ h2=>absurd he h2⟩⟩
theorem Kd{x:Np.DSet}{b:List UInt8}(hb:b≠[])(he:b≠x.name):Np.kR x b↔x.type=1:=
 ⟨λh=>h.2.2 hb he,λh=>⟨λh2=>absurd h2 hb,λ_ h2=>absurd h2 he,λ_ _=>h⟩⟩
theorem RZ(a:ByteArray)(v bv:Value)(l:List Np.Signed)(B:List (List UInt8))(iM:B.length=l.length)(w:World)(hd:SlR cA 5 w w.heap.size v l)(l4:SlR RTx 1 w w.heap.size bv B) :
 Calls prog 202 #[.agg #[.string a,v,bv]] w (aeJ w.heap.size w (.bool (Np.yes (Np.n9 l B)))):=by
 obtain⟨r,hr⟩:=abK (Np.yes (Np.n9 l B));rw[hr];have HR:=jq hr;have eT:=jq iM;have HD:=jq hd;have nw:=jq l4;obtain⟨A,c,rfl,aW,bh⟩:=aj hd;obtain⟨A2,c2,rfl,db,cY⟩:=aj l4;rw[iM] at db cY nw |-;clear hr hd l4 iM;have HW:Hid (∀ o,Below w.heap.size w (w.alloc o)):=jq (λo=>(vQ _ w).alloc (bQ _) _);go_enter func202,ntmps202;go_wp2_with fail;obtain⟨w1,ak⟩:=abK (w.alloc (.cells #[.string a,.slice A l.length c,.slice A2 l.length c2] 265));have c2':w1.cell? ⟨w.heap.size,2,none⟩=some (.slice A2 l.length c2):=by rw[<-ak];simp[go_sem]
 have bU:w.heap.size<w1.heap.size:=by rw[<-ak];simp
 have ar:Hid (Below w.heap.size w w1):=jq (by rw[<-ak];exact HW.out _);rw[ak];clear ak;go_loopw [11] (λi wr=>∃ k:Nat,k<=l.length/\i = .int .i64 k/\Hid (Below w1.heap.size w1 wr)/\Hid (∀ j x b,j<k->l[j]?=some x->B[j]?=some b->Np.kR x.set b)) (λi _=>l.length - (intOf i).toNat)
 case atStart=>exact⟨0,jQ _,rfl,jq (vQ _ _),jq (λj x b hj=>by omega)⟩
 case round=>
  obtain⟨k,hk,rfl,HB,HA⟩:=hrel;have al:=HB.out.size;have az:=abJ ar HB.out;by_cases aa:k<l.length
  ·obtain⟨x,ac⟩:∃ x,l[k]?=some x:=⟨_,aQ aa⟩;obtain⟨bb,dw⟩:∃ bb,B[k]?=some bb:=⟨_,aQ (by rw[eT.out];omega)⟩;obtain⟨b,o,c',sn,dv,sv,hA,bp,_,aw,cE,aR,aN,e0,e1,e2,e3,e4⟩:=fk (HD.out.keep bI az.out) ac
   cases hA
   obtain⟨b2,o2,sb,rfl,uW,kB,Gq,g0⟩:=pa (nw.out.keep mv az.out) dw;have HN:Hid (Np.kR x.set bb->∀ j x b,j<k+1->l[j]?=some x->B[j]?=some b->Np.kR x.set b):=jq (λh j x b hj hx hb=>by
    by_cases e:j=k
    ·subst e;rw[ac] at hx;rw[dw] at hb;cases hx;cases hb;exact h
    ·exact HA.out j x b (by omega) hx hb)
   have HF:Hid (¬ Np.kR x.set bb->r=false):=jq (λh=>by
    rw[<-HR.out];exact Np.aK λq=>h (q k _ _ ac dw))
   clear ac dw;obtain⟨Ad,cd,rfl,_,_⟩:=aj aR;obtain⟨As,cs,rfl,_,_⟩:=aj aN;have hcell:wr.cell? ⟨w.heap.size,2,none⟩=some (.slice (some ⟨b2,o2,none⟩) l.length c2):=abZ HB.out c2';have bO:w.heap.size<wr.heap.size:=by omega
   have an:b<wr.heap.size:=by omega
   have ab:b2<wr.heap.size:=by omega
   have ba:Hid (∀ o,Below w1.heap.size w1 (wr.alloc o)):=jq (λo=>HB.out.alloc HB.out.size _);have nv:Hid (∀ o,Below w.heap.size w (wr.alloc o)):=jq (λo=>az.out.alloc (by omega) _);have bL:(0:Int)<=(k:Int):=by omega
   have bY:(k:Int)<(l.length:Int):=by omega
   have aS:=jq aw;have el:=jq kB;obtain⟨ty,eD⟩:=abK x.set.type;have eJ:=jq eD;rw[eD] at e1;clear aw kB aR aN eD;by_cases bT:bb = []
   ·obtain rfl:sb=⟨#[]⟩:=jD (by rw[el.out,bT]);have bk:=jq (Kb (x:=x.set) bT);clear bT;by_cases h6:ty=6
    ·have HX:Hid (r=false):=jq (HF.out λh=>(bk.out.1 h) (eJ.out.trans h6));subst h6;go_wp2_with fail;go_ret;exact⟨ae HX.out.symm,nv.out _⟩
    ·have HX:=jq (HN.out (bk.out.2 λh=>h6 (eJ.out.symm.trans h)));have h6':(ty == 6)=false:=by simpa using h6
     clear h6;go_wp2_with fail;go_roundw
     case rel=>exact⟨k+1,by omega,by go_num,jq (ba.out _),jq HX.out⟩
     case measure=>simp[intOf] <;> omega
   ·have zg:(sb.toList == [])=false:=by rw[dQ,el.out];simpa using bT
    by_cases gS:bb=x.set.name
    ·have B8:(sb.toList == sn.toList)=true:=by rw[dQ,dQ,el.out,aS.out];simpa using gS
     have bk:=jq (Kc (x:=x.set) bT gS);clear bT gS;by_cases ht:ty=2\/ty=6\/ty=8\/ty=1
     ·have HX:=jq (HN.out (bk.out.2 (by rw[eJ.out];exact ht)));rcases ht with rfl | rfl | rfl | rfl
      all_goals
       go_wp2_with fail;go_roundw
       case rel=>exact⟨k+1,by omega,by go_num,jq (ba.out _),jq HX.out⟩
       case measure=>simp[intOf] <;> omega
     ·have HX:Hid (r=false):=jq (HF.out λh=>ht (by have:=bk.out.1 h;rwa [eJ.out] at this));have t1:(ty != 2)=true:=by simp;omega
      have t2:(ty != 6)=true:=by simp;omega
      have t3:(ty != 8)=true:=by simp;omega
      have t4:(ty != 1)=true:=by simp;omega
      clear ht;go_wp2_with fail;go_ret;exact⟨ae HX.out.symm,nv.out _⟩
    ·have B8:(sb.toList == sn.toList)=false:=by rw[dQ,dQ,el.out,aS.out];simpa using gS
     have bk:=jq (Kd (x:=x.set) bT gS);clear bT gS;by_cases ht:ty=1
     ·have HX:=jq (HN.out (bk.out.2 (by rw[eJ.out];exact ht)));subst ht;go_wp2_with fail;go_roundw
      case rel=>exact⟨k+1,by omega,by go_num,jq (ba.out _),jq HX.out⟩
      case measure=>simp[intOf] <;> omega
     ·have HX:Hid (r=false):=jq (HF.out λh=>ht (by have:=bk.out.1 h;rwa [eJ.out] at this));have t4:(ty != 1)=true:=by simpa using ht
      clear ht;go_wp2_with fail;go_ret;exact⟨ae HX.out.symm,nv.out _⟩
  ·go_wp2_with fail;go_ret;refine⟨ae ?_,az.out⟩;rw[<-HR.out];exact (Np.bS λi x b hx hb=>HA.out i x b (by have:=(cQ.1 hx).1;omega) hx hb).symm
end
end Go.Proofs.YtfnopgdcaanaiaaGreatDoor
