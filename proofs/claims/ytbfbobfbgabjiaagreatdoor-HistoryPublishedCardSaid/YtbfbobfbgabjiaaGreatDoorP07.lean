/- Parts of the proof. No condition. -/
import Derived.IntWalk
import Derived.Test.YtbfbobfbgabjiaaGreatDoorP06
set_option linter.all false
set_option maxRecDepth 100000
set_option maxHeartbeats 8000000
namespace Go.Proofs.YtbfbobfbgabjiaaGreatDoor
open Go.Proofs.Tryz
section
open Go.RowKit
theorem sK{w:World}{B:Nat}{v:Value}{xs:List Np.Sig}(h:SlR fj 6 w B v xs){k:Nat}{x:Np.Sig}(hx:xs[k]?=some x):∃ (b o c:Nat) (s:ByteArray),v = .slice (some ⟨b,o,none⟩) xs.length c/\b<B/\s.data.toList=x.zone/\s.size<=140737488355328/\
 w.cell? ⟨b,o+k * 6,none⟩=some (.string s)/\w.cell? ⟨b,o+k * 6+1,none⟩=some (.int .i64 x.key)/\w.cell? ⟨b,o+k * 6+2,none⟩=some (.int .i64 x.alg)/\w.cell? ⟨b,o+k * 6+3,none⟩=some (.int .i64 x.frm)/\w.cell? ⟨b,o+k * 6+4,none⟩=some (.int .i64 x.til)/\w.cell? ⟨b,o+k * 6+5,none⟩=some (.int .u64 x.sum):=by
 obtain⟨A,c,rfl,hc,_,he⟩:=h;obtain⟨b,o,e,rfl,hb,_,hce,s,h1,h2,rfl⟩:=he k x hx;exact⟨b,o,c,s,rfl,hb,h1,h2,by have:=hce 0 _ rfl; simpa using this,hce 1 _ rfl,hce 2 _ rfl,hce 3 _ rfl,hce 4 _ rfl,hce 5 _ rfl⟩
theorem NM(t:Int)(b:Bool)(w:World) :
 Calls prog 166 #[.int .i64 t,.bool b] w λe w'=>e = .returned (.bool (Np.jT t b))/\w=w':=by
 unfold Np.jT;go_enter func166,ntmps166;go_wp2_with fail
 all_goals
  go_ret;refine⟨ae ?_,rfl⟩;simp_all
theorem P1{a:List UInt8}{l:List Np.Sig}{k:Nat}{x:Np.Sig}(hx:l[k]?=some x)(h:¬ Np.SigOk a l k x):Np.yes (Np.gr a l)=false:=Np.aJ λhf=>h (hf.2 k x hx)
theorem Rr{a:List UInt8}{l:List Np.Sig}{k:Nat}{x:Np.Sig}(hx:l[k]?=some x)(h:∀ j g,j<k->l[j]?=some g->Np.SigOk a l j g)(hk:Np.SigOk a l k x):∀ j g,j<k+1->l[j]?=some g->Np.SigOk a l j g:=λj g hj hg=>by
 by_cases e:j=k
 ·subst e; rw[hx] at hg; cases hg; exact hk
 ·exact h j g (by omega) hg
theorem aaJ(a:ByteArray)(v:Value)(l:List Np.Sig)(w:World)(h:SlR fj 6 w w.heap.size v l) :
 Calls prog 167 #[v,.string a] w λe w'=>e = .returned (.bool (Np.yes (Np.gr a.data.toList l)))/\Below w.heap.size w w':=by
 obtain⟨r,hr⟩:∃ r,Np.yes (Np.gr a.data.toList l)=r:=⟨_,rfl⟩;rw[hr];have HR:=jq hr;have H:=jq h;obtain⟨A,c,rfl,aV,bi⟩:=ah h;clear h hr;by_cases h6:l.length<=6
 ·have H6:=jq h6;go_enter func167,ntmps167;go_wp2_with fail;go_loopw [12] (λi wr=>∃ k:Nat,k<=l.length/\i = .int .i64 k/\Hid (Below w.heap.size w wr)/\Hid (∀ j g,j<k->l[j]?=some g->Np.SigOk a.data.toList l j g)) (λi _=>l.length - (intOf i).toNat)
  case atStart=>exact⟨0,jQ _,rfl,jq (vQ _ _),jq (λj g hj=>by omega)⟩
  case round=>
   obtain⟨k,hk,rfl,HB,HA⟩:=hrel;by_cases aa:k<l.length
   ·have eX:=H.out.keep el HB.out;have ac:=aQ aa;obtain⟨b,o,c',s,hA,bS,hs,am,e0,e1,e2,e3,e4,e5⟩:=sK eX ac
    cases hA
    have wW:=aQ (show 0<l.length by omega);obtain⟨b',o',c'',s',hA,_,_,_,_,z1,z2,z3,z4,_⟩:=sK eX wW;simp only[Value.slice.injEq,Option.some.injEq,Addr.mk.injEq,and_true,true_and] at hA;obtain⟨⟨rfl,rfl⟩,-⟩:=hA;simp only[Nat.zero_mul,Nat.add_zero] at z3 z4;have HN:Hid (∀ h:Np.SigOk a.data.toList l k l[k],∀ j g,j<k+1->l[j]?=some g->Np.SigOk a.data.toList l j g):=jq (λh=>Rr ac HA.out h);have HF:Hid (¬ Np.SigOk a.data.toList l k l[k]->r=false):=jq (λh=>HR.out ▸ P1 ac h);have HZ:=jq wW;have xI:=jq ac;have HS:=jq hs;have ic:=HB.out.size;have vS:b<wr.heap.size:=by omega
    have aY:Hid (∀ o n,Below w.heap.size w ((wr.alloc o).drewN n)):=jq (λo n=>below_drewN (HB.out.alloc HB.out.size _) _);have oW:Hid (∀ o,Below w.heap.size w (wr.alloc o)):=jq (λo=>(HB.out.alloc HB.out.size _));have bH:(0:Int)<=(k:Int):=by omega
    have bG:(k:Int)<(l.length:Int):=by omega
    have bL:(0:Int)<(l.length:Int):=by omega
    have Hd:Hid (∀ m,k=m+1->∃ y,l[m]?=some y/\wr.cell? ⟨b,o+m * 6+1,none⟩=some (.int .i64 y.key)):=jq (λm hm=>by
     obtain⟨b2,o2,c2,s2,hA,_,_,_,_,y1,_⟩:=sK eX (aQ (show m<l.length by omega));simp only[Value.slice.injEq,Option.some.injEq,Addr.mk.injEq,and_true,true_and] at hA;obtain⟨⟨rfl,rfl⟩,-⟩:=hA;exact⟨_,aQ (by omega),y1⟩)
    generalize l[k]=x at *;generalize l[0]=x0 at *;clear eX hs ac wW z1 z2;have pz:((!s.toList == a.toList)=true)\/(!s.toList == a.toList)=false/\(decide (x.key<1)=true\/decide (x.key<1)=false/\(decide (1000000<x.key)=true\/decide (1000000<x.key)=false/\(decide (x.alg<1)=true\/decide (x.alg<1)=false/\(decide (3<x.alg)=true\/decide (3<x.alg)=false/\(decide (x.frm<0)=true\/decide (x.frm<0)=false/\(decide (x.til<x.frm)=true\/decide (x.til<x.frm)=false/\(decide (20000000<x.til)=true\/decide (20000000<x.til)=false))))))):=by
     simp only[Qa,decide_eq_false_iff_not];by_cases q:s.toList=a.toList
     ·simp[q]; omega
     ·exact .inl (by simpa using q)
    rcases pz with d1 | ⟨d1,d2 | ⟨d2,d3 | ⟨d3,d4 | ⟨d4,d5 | ⟨d5,d6 | ⟨d6,d7 | ⟨d7,d8 | d8⟩⟩⟩⟩⟩⟩⟩
    rotate_right
    ·by_cases iY:k=0
     ·have ju:decide ((0:Int)<(k:Int))=false:=by simp; omega
      have jw:decide (0<k)=false:=by simp; omega
      have bR:Hid (Np.SigOk a.data.toList l k x):=jq (by
       have e1:s.toList=a.toList:=by simpa using d1
       rw[dQ,dQ] at e1;simp only[decide_eq_false_iff_not] at d2 d3 d4 d5 d6 d7 d8;have eJ:x0=x:=by
        have h1:=HZ.out;rw[<-iY,xI.out] at h1;exact (Option.some.inj h1).symm
       refine⟨by rw[<-HS.out,e1],by omega,by omega,by omega,λq hq=>?_,λp _ h0=>by omega⟩;rw[HZ.out] at hq; cases hq;rw[eJ]; exact⟨rfl,rfl⟩)
      clear iY;go_wp2_with fail;go_quiet (fail);go_wp2_with fail;go_roundw
      case rel=>exact⟨k+1,by omega,by go_num,jq (aY.out _ _),jq (HN.out bR.out)⟩
      case measure=>simp[intOf] <;> omega
     ·obtain⟨m,rfl⟩:∃ m,k=m+1:=⟨k - 1,by omega⟩;obtain⟨y,hy,y1⟩:=Hd.out m rfl;have HY:=jq hy;have ju:decide ((0:Int)<((m+1:Nat):Int))=true:=by simp
      have ak:IntKind.i64.wrap (((m+1:Nat):Int) - 1)=(m:Int):=by rw[IntWalk.i64_in _ (by omega)]; omega
      have qE:(0:Int)<=(m:Int):=by omega
      have rU:(m:Int)<(l.length:Int):=by omega
      have Yh:((x.frm != x0.frm)=true)\/(x.frm != x0.frm)=false/\((x.til != x0.til)=true\/(x.til != x0.til)=false/\(decide (x.key<=y.key)=true\/decide (x.key<=y.key)=false)):=by
       simp only[bne_iff_ne,bne_eq_false_iff_eq,Qa,decide_eq_false_iff_not]; omega
      clear hy iY;rcases Yh with c1 | ⟨c1,c2 | ⟨c2,c3 | c3⟩⟩
      rotate_right
      ·have bR:Hid (Np.SigOk a.data.toList l (m+1) x):=jq (by
        have e1:s.toList=a.toList:=by simpa using d1
        rw[dQ,dQ] at e1;simp only[decide_eq_false_iff_not,bne_eq_false_iff_eq] at d2 d3 d4 d5 d6 d7 d8 c1 c2 c3;refine⟨by rw[<-HS.out,e1],by omega,by omega,by omega,λq hq=>?_,λp hp h0=>?_⟩
        ·rw[HZ.out] at hq; cases hq;exact⟨c1,c2⟩
        ·rw[show m+1 - 1=m by omega,HY.out] at hp; cases hp;omega)
       go_wp2_with fail;go_quiet (fail);go_wp2_with fail;go_roundw
       case rel=>exact⟨m+1+1,by omega,by go_num,jq (aY.out _ _),jq (HN.out bR.out)⟩
       case measure=>simp[intOf] <;> omega
      all_goals
       go_wp2_with fail;go_quiet (fail);go_wp2_with fail;go_ret;refine⟨ae (HF.out ?_).symm,aY.out _ _⟩;intro nG;have k5:=nG.same _ HZ.out;have k6:=nG.up _ HY.out (by omega);simp only[bne_iff_ne,bne_eq_false_iff_eq,Qa,decide_eq_false_iff_not] at *;omega
    all_goals
     go_wp2_with fail;go_ret;refine⟨ae (HF.out ?_).symm,oW.out _⟩;intro nG;obtain⟨k1,k2,k3,k4,_,_⟩:=nG
     first
      | (rw[dQ,dQ,HS.out,k1] at d1; simp at d1; done)
      | (simp only[Qa,decide_eq_false_iff_not] at *; omega)
   ·go_wp2_with fail;go_ret;refine⟨ae ?_,HB.out⟩;rw[<-HR.out];exact (Np.bM ⟨H6.out,λj g hg=>HA.out j g (by have:=(cQ.1 hg).1; omega) hg⟩).symm
 ·have h6':6<l.length:=by omega
  have HF:Hid (r=false):=jq (by rw[<-HR.out]; exact Np.aJ λhf=>h6 hf.1);clear h6;go_enter func167,ntmps167;go_wp2_with fail;go_ret;exact⟨ae HF.out.symm,vQ _ _⟩
theorem Sb(s:ByteArray)(hs:s.size<=140737488355328)(w:World) :
 Calls prog 163 #[.string s,.string ⟨#[42]⟩] w λe w'=>e = .returned (.bool (Np.eK s.data.toList))/\w=w':=by
 have h1:1<=s.size->((s.extract 0 1).toList == [42])=Np.eK s.data.toList:=Qi s;have h2:s.size<1->Np.eK s.data.toList=false:=λh=>by
  have:s.data.toList = []:=rQ (by rw[aT]; omega)
  rw[this]; rfl
 have H1:=jq h1;have H2:=jq h2;clear h1 h2;go_enter func163,ntmps163;go_wp2
 ·go_ret;exact⟨ae (H1.out (by omega)),rfl⟩
 ·go_ret;exact⟨ae (H2.out (by omega)).symm,rfl⟩
def pW(l:List Np.Signed)(k:Nat):Option Np.DSet:=(l.take k).getLast?.map (·.set)
theorem FQ{l:List Np.Signed}{k:Nat}{x:Np.Signed}(h:l[k]?=some x):pW l (k+1)=some x.set:=by
 obtain⟨hl,rfl⟩:=cQ.1 h;unfold pW;rw[fQ hl,List.getLast?_append]; rfl
theorem R9{apex:List UInt8}{l:List Np.Signed}{k:Nat}{x:Np.Signed}(h:l[k]?=some x)(p:Option Np.DSet) :
 Np.jU apex p (l.drop k)=((Np.aD x.set.name&&Np.bp x.set.name apex)&&Np.dX x.set&&(match p with | none=>true | some q=>decide (Np.gK q x.set<0))&&Np.jU apex (some x.set) (l.drop (k+1))):=by
 obtain⟨hl,rfl⟩:=cQ.1 h;rw[sQ hl]
 cases p <;> rfl
def U6(w1:World)(apex:List UInt8)(l:List Np.Signed)(i:Value)(wr:World):Prop:=
 ∃ k:Nat,k<=l.length/\i = .int .i64 k/\Below w1.heap.size w1 wr/\Hid (∀ j x,j<k->l[j]?=some x->Np.dX x.set=true)/\Hid (Np.jU apex none l=Np.jU apex (pW l k) (l.drop k))
theorem aRQ(a:ByteArray)(ha:a.size<=140737488355328)(v:Value)(l:List Np.Signed)(bV:l.length<=20000)(w:World)(hR:iS w w.heap.size)(hd:SlR bC 5 w w.heap.size v l) :
 Calls prog 101 #[.agg #[.string a,v]] w λe w'=>e = .returned (.bool (Np.eN ⟨a.data.toList,l⟩))/\Below w.heap.size w w':=by
 have HR:=jq hR;have HD:=jq hd;obtain⟨A,c,rfl,aV,bi,-⟩:=hd;clear hR;have HW:Hid (∀ o,Below w.heap.size w (w.alloc o)):=jq (λo=>(vQ _ w).alloc (bQ _) _);go_enter func101,ntmps101;go_wp2_with fail;refine (nameValid_any _ ha _).mono ?_;rintro e w1 ⟨rfl,hb⟩;have c0:w1.cell? ⟨w.heap.size,0,none⟩=some (.string a):=by rw[hb.cell (by simp)]; go_simp
 have c1:w1.cell? ⟨w.heap.size,1,none⟩=some (.slice A l.length c):=by rw[hb.cell (by simp)]; go_simp
 have ep:w.heap.size<w1.heap.size:=by have:=hb.size; simp at this; omega
 have ay:=jq ((HW.out _).trans (hb.mono (by simp)));clear hb
 cases qM:Np.aD a.data.toList with
 | false=>
  have HF:Hid (Np.eN ⟨a.data.toList,l⟩=false):=jq (by unfold Np.eN; rw[qM]; rfl);clear qM;go_wp2_with fail;go_ret;exact⟨ae HF.out.symm,ay.out⟩
 | true=>
  have od:=jq qM;clear qM
  cases jy:Np.eK a.data.toList with
  | true=>
   have HF:Hid (Np.eN ⟨a.data.toList,l⟩=false):=jq (by unfold Np.eN; rw[jy]; simp);go_wp2_with (go_at_call 163; refine (Sb a ha _).mono ?_; rintro e w' ⟨rfl,rfl⟩);go_ret;exact⟨ae HF.out.symm,ay.out⟩
  | false=>
   have HF:Hid (Np.eN ⟨a.data.toList,l⟩=Np.jU a.data.toList none l):=jq (by unfold Np.eN; rw[jy,od.out]; simp);go_wp2_with (go_at_call 163; refine (Sb a ha _).mono ?_; rintro e w' ⟨rfl,rfl⟩);clear jy;go_loopw [30] (λi wr=>U6 w1 a.data.toList l i wr) (λi _=>l.length - (intOf i).toNat)
   case atStart=>exact⟨0,jQ _,rfl,vQ _ _,jq (λj x hj=>by omega),jq rfl⟩
   case round=>
    obtain⟨k,hk,rfl,aG,HV,HG⟩:=hrel;by_cases aa:k<l.length
    ·have lV:Below w.heap.size w wr:=ay.out.trans (aG.mono (by omega));have ac:=aQ aa;obtain⟨b,o,c',sn,dv,sv,hA,bS,_,av,am,aL,ax,e0,e1,e2,e3,e4⟩:=eE (HD.out.keep aN lV) ac
     cases hA
     generalize hx:l[k]=x at *;clear hx;obtain⟨Ad,cd,rfl,Jg,Y0⟩:=ah aL;obtain⟨As,cs,rfl,hcs,hls⟩:=ah ax;have d0:wr.cell? ⟨w.heap.size,0,none⟩=some (.string a):=by rw[aG.cell (by simpa using ep)]; exact c0
     have d1:wr.cell? ⟨w.heap.size,1,none⟩=some (.slice (some ⟨b,o,none⟩) l.length c):=by rw[aG.cell (by simpa using ep)]; exact c1
     have dz:w.heap.size<wr.heap.size:=by have:=aG.size; omega
     have iA:=jq aL;have HX:=jq ac;have aH:=jq av;have aB:=jq aG;have xC:=jq lV;have rk:=jq (HG.out.trans (R9 ac (pW l k)));clear aL ax ac av aG lV c0 c1;go_wp2_with fail;have mD:Below wr.heap.size wr (wr.alloc (.cells #[.string sn,.int .i64 x.set.type,.int .i64 x.set.life,.slice Ad x.set.data.length cd,.slice As x.sigs.length cs] 68)):=(vQ _ _).alloc (bQ _) _;have p0:=World.cell?_alloc_new wr #[.string sn,.int .i64 x.set.type,.int .i64 x.set.life,.slice Ad x.set.data.length cd,.slice As x.sigs.length cs] 68 0;have p1:=World.cell?_alloc_new wr #[.string sn,.int .i64 x.set.type,.int .i64 x.set.life,.slice Ad x.set.data.length cd,.slice As x.sigs.length cs] 68 1;have lB:wr.heap.size<(wr.alloc (.cells #[.string sn,.int .i64 x.set.type,.int .i64 x.set.life,.slice Ad x.set.data.length cd,.slice As x.sigs.length cs] 68)).heap.size:=by simp
     generalize wr.alloc (.cells #[.string sn,.int .i64 x.set.type,.int .i64 x.set.life,.slice Ad x.set.data.length cd,.slice As x.sigs.length cs] 68)=wa at mD p0 p1 lB |-;have cH:=jq mD;have uF:=jq (xC.out.trans (mD.mono (by omega)));replace p0:wa.cell? ⟨wr.heap.size,0,none⟩=some (.string sn):=p0;replace p1:wa.cell? ⟨wr.heap.size,1,none⟩=some (.int .i64 x.set.type):=p1;replace d0:wa.cell? ⟨w.heap.size,0,none⟩=some (.string a):=by rw[mD.cell (by simpa using dz)]; exact d0
     replace d1:wa.cell? ⟨w.heap.size,1,none⟩=some (.slice (some ⟨b,o,none⟩) l.length c):=by rw[mD.cell (by simpa using dz)]; exact d1
     clear mD e0 e1 e2 e3 e4;refine (QY sn am _ _ _ x.set.data _ ((HR.out.keep uF.out).more (by omega)) ((iA.out.keep cB (cH.out.mono (by omega))).more cZ (by omega))).mono ?_;have ue:(⟨sn.data.toList,x.set.type,x.set.life,x.set.data⟩:Np.DSet)=x.set:=by rw[aH.out]
     rw[ue];clear ue;rintro e w2 ⟨rfl,ab⟩;have aM:wr.heap.size<w2.heap.size:=by have:=ab.size; omega
     have Z6:w.heap.size<w2.heap.size:=by omega
     replace d0:w2.cell? ⟨w.heap.size,0,none⟩=some (.string a):=by rw[ab.cell (by simp; omega)]; exact d0
     replace d1:w2.cell? ⟨w.heap.size,1,none⟩=some (.slice (some ⟨b,o,none⟩) l.length c):=by rw[ab.cell (by simp; omega)]; exact d1
     replace p0:w2.cell? ⟨wr.heap.size,0,none⟩=some (.string sn):=by rw[ab.cell (by simpa using lB)]; exact p0
     replace p1:w2.cell? ⟨wr.heap.size,1,none⟩=some (.int .i64 x.set.type):=by rw[ab.cell (by simpa using lB)]; exact p1
     have al:=jq (uF.out.trans (ab.mono (by omega)));have Sm:=jq (cH.out.trans (ab.mono (by omega)));clear ab
     cases ft:Np.dX x.set with
     | false=>
      have ga:=jq ft;clear ft;go_wp2_with fail;go_ret;refine⟨ae ?_,al.out⟩;rw[HF.out,rk.out,ga.out,Bool.and_false]; rfl
     | true=>
      have ga:=jq ft;have lA:Np.aD sn.data.toList=true:=by rw[aH.out]; exact FL ft
      have gZ:=jq lA;have Bt:∀ j y,j<k+1->l[j]?=some y->Np.dX y.set=true:=λj y hj hy=>by
       by_cases e:j=k
       ·subst e; rw[HX.out] at hy; cases hy; exact ft
       ·exact HV.out j y (by omega) hy
      have pZ:=jq Bt;clear ft lA Bt;go_wp2_with fail;refine (K3 sn a am ha _ gZ.out od.out).mono ?_;rintro e w3 ⟨rfl,ag⟩;have er:wr.heap.size<w3.heap.size:=by have:=ag.size; omega
      have Z7:w.heap.size<w3.heap.size:=by omega
      replace d1:w3.cell? ⟨w.heap.size,1,none⟩=some (.slice (some ⟨b,o,none⟩) l.length c):=by rw[ag.cell (by simp; omega)]; exact d1
      replace p0:w3.cell? ⟨wr.heap.size,0,none⟩=some (.string sn):=by rw[ag.cell (by simpa using aM)]; exact p0
      replace p1:w3.cell? ⟨wr.heap.size,1,none⟩=some (.int .i64 x.set.type):=by rw[ag.cell (by simpa using aM)]; exact p1
      have ar:=jq (al.out.trans (ag.mono (by omega)));have Lp:=jq (Sm.out.trans (ag.mono (by omega)));clear ag d0
      cases fH:Np.bp sn.data.toList a.data.toList with
      | false=>
       have AD:=jq fH;clear fH;go_wp2_with fail;go_ret;refine⟨ae ?_,ar.out⟩;rw[HF.out,rk.out,<-aH.out,gZ.out,AD.out]; rfl
      | true=>
       have cI:=jq (show Np.jU a.data.toList none l=((match pW l k with | none=>true | some q=>decide (Np.gK q x.set<0))&&Np.jU a.data.toList (pW l (k+1)) (l.drop (k+1))) by
        rw[rk.out,<-aH.out,gZ.out,fH,ga.out,FQ HX.out]; rfl)
       clear fH;by_cases bH:k=0
       ·subst bH;go_wp2_with fail;go_roundw
        case rel=>exact⟨1,by omega,by go_num,aB.out.trans (Lp.out.mono aB.out.size),pZ,jq (by rw[cI.out]; rfl)⟩
        case measure=>simp[intOf] <;> omega
       ·obtain⟨i,rfl⟩:∃ i,k=i+1:=⟨k - 1,by omega⟩;have rS:=aQ (show i<l.length by omega);obtain⟨b',o',c'',sq,dq,sg,pq,vR,_,jx,Px,BE,_,f0,f1,f2,f3,_⟩:=eE ((HD.out.keep aN ar.out)) rS
        cases pq
        have Cn:=FL (HV.out i l[i] (by omega) rS);generalize hy:l[i]=y at *;clear hy;obtain⟨Aq,cq,rfl,Yo,Ey⟩:=ah BE;have yH:((((i+1:Nat):Int)) == 0)=false:=by simp; omega
        have UP:Hid (Np.aD sq.data.toList=true):=jq (by rw[jx]; exact Cn);have S7:Hid (Np.eS (sq.data.toList,y.set.type) (sn.data.toList,x.set.type)=Np.gK y.set x.set):=jq (by rw[jx,aH.out,Np.In]; rfl);have u7:=jq (FQ rS);clear BE jx rS Cn;have aXZ:b<w3.heap.size:=by omega
        have ak:IntKind.i64.wrap (((i+1:Nat):Int) - 1)=(i:Int):=by rw[IntWalk.i64_in _ (by omega)]; omega
        have qE:(0:Int)<=(i:Int):=by omega
        have rU:(i:Int)<(l.length:Int):=by omega
        have oV:Hid (∀ o,Below w3.heap.size w3 (w3.alloc o)):=jq (λo=>(vQ _ _).alloc (bQ _) _);go_wp2_with fail;refine (Sa sq sn Px am _ _ UP.out gZ.out _).mono ?_;rw[S7.out];rintro e w4 ⟨rfl,an⟩;have bq:=jq ((oV.out _).trans (an.mono (by simp)));clear an;by_cases fN:Np.gK y.set x.set<0
        ·have kW:=jq (uQ fN);have Jh:¬ (0<=Np.gK y.set x.set):=by omega
         clear fN;go_wp2_with fail;go_roundw
         case rel=>
          refine⟨i+1+1,by omega,by go_num,aB.out.trans ((Lp.out.trans (bq.out.mono (by omega))).mono aB.out.size),pZ,jq ?_⟩;rw[cI.out,u7.out];simp only[kW.out,Bool.true_and]
         case measure=>simp[intOf] <;> omega
        ·have kW:=jq (tQ fN);have Jh:0<=Np.gK y.set x.set:=by omega
         clear fN;go_wp2_with fail;go_ret;refine⟨ae ?_,ar.out.trans (bq.out.mono (by omega))⟩;rw[HF.out,cI.out,u7.out];simp only[kW.out,Bool.false_and]
    ·go_wp2_with fail;go_ret;refine⟨ae ?_,ay.out.trans (aG.mono (by omega))⟩;rw[HF.out,HG.out,List.drop_eq_nil_of_le (by omega)];rfl
end
end Go.Proofs.YtbfbobfbgabjiaaGreatDoor
