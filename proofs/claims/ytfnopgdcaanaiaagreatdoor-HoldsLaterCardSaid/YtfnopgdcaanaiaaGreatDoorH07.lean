/- Parts of the proof. No condition. -/
import Derived.IntWalk
import Derived.Carry
import Derived.Deep.Slices
import Derived.SizedLaws
import Derived.WideShapes
import Derived.Test.YtfnopgdcaanaiaaGreatDoorH06
set_option linter.all false
set_option maxRecDepth 100000
set_option maxHeartbeats 8000000
namespace Go.Proofs.YtfnopgdcaanaiaaGreatDoor
open Go.Proofs.Tryz
section
open Go.RowKit
theorem mJ{w:World}{B:Nat}{v:Value}{xs:List Np.Sig}(h:SlR dj 6 w B v xs){k:Nat}{x:Np.Sig}(hx:xs[k]?=some x):∃ (b o c:Nat) (s:ByteArray),v = .slice (some ⟨b,o,none⟩) xs.length c/\b<B/\s.data.toList=x.zone/\s.size<=140737488355328/\
 w.cell? ⟨b,o+k * 6,none⟩=some (.string s)/\w.cell? ⟨b,o+k * 6+1,none⟩=some (.int .i64 x.key)/\w.cell? ⟨b,o+k * 6+2,none⟩=some (.int .i64 x.alg)/\w.cell? ⟨b,o+k * 6+3,none⟩=some (.int .i64 x.frm)/\w.cell? ⟨b,o+k * 6+4,none⟩=some (.int .i64 x.til)/\w.cell? ⟨b,o+k * 6+5,none⟩=some (.int .u64 x.sum):=by
 obtain⟨A,c,rfl,hc,_,he⟩:=h;obtain⟨b,o,e,rfl,hb,_,hce,s,h1,h2,rfl⟩:=he k x hx;exact⟨b,o,c,s,rfl,hb,h1,h2,by have:=hce 0 _ rfl;simpa using this,hce 1 _ rfl,hce 2 _ rfl,hce 3 _ rfl,hce 4 _ rfl,hce 5 _ rfl⟩
theorem JY(t:Int)(b:Bool)(w:World) :
 Calls prog 271 #[.int .i64 t,.bool b] w λe w'=>e = .returned (.bool (Np.iI t b))/\w=w':=by
 unfold Np.iI;go_enter func271,ntmps271;go_wp2_with fail
 all_goals
  go_ret;refine⟨ae ?_,rfl⟩;simp_all
theorem LW{a:List UInt8}{l:List Np.Sig}{k:Nat}{x:Np.Sig}(hx:l[k]?=some x)(h:¬ Np.SigOk a l k x):Np.yes (Np.fw a l)=false:=Np.aF λhf=>h (hf.2 k x hx)
theorem NF{a:List UInt8}{l:List Np.Sig}{k:Nat}{x:Np.Sig}(hx:l[k]?=some x)(h:∀ j g,j<k->l[j]?=some g->Np.SigOk a l j g)(hk:Np.SigOk a l k x):∀ j g,j<k+1->l[j]?=some g->Np.SigOk a l j g:=λj g hj hg=>by
 by_cases e:j=k
 ·subst e;rw[hx] at hg;cases hg;exact hk
 ·exact h j g (by omega) hg
theorem VH(a:ByteArray)(v:Value)(l:List Np.Sig)(w:World)(h:SlR dj 6 w w.heap.size v l) :
 Calls prog 272 #[v,.string a] w λe w'=>e = .returned (.bool (Np.yes (Np.fw a.data.toList l)))/\Below w.heap.size w w':=by
 obtain⟨r,hr⟩:∃ r,Np.yes (Np.fw a.data.toList l)=r:=⟨_,rfl⟩;rw[hr];have HR:=jq hr;have H:=jq h;obtain⟨A,c,rfl,bw,bT⟩:=al h;clear h hr;by_cases h6:l.length<=6
 ·have H6:=jq h6;go_enter func272,ntmps272;go_wp2_with fail;go_loopw [12] (λi wr=>∃ k:Nat,k<=l.length/\i = .int .i64 k/\Hid (Below w.heap.size w wr)/\Hid (∀ j g,j<k->l[j]?=some g->Np.SigOk a.data.toList l j g)) (λi _=>l.length - (intOf i).toNat)
  case atStart=>exact⟨0,jQ _,rfl,jq (vQ _ _),jq (λj g hj=>by omega)⟩
  case round=>
   obtain⟨k,hk,rfl,HB,HA⟩:=hrel;by_cases aa:k<l.length
   ·have cD:=H.out.keep ep HB.out;have ab:=aQ aa;obtain⟨b,o,c',s,hA,bJ,hs,an,e0,e1,e2,e3,e4,e5⟩:=mJ cD ab
    cases hA
    have tF:=aQ (show 0<l.length by omega);obtain⟨b',o',c'',s',hA,_,_,_,_,z1,z2,z3,z4,_⟩:=mJ cD tF;simp only[Value.slice.injEq,Option.some.injEq,Addr.mk.injEq,and_true,true_and] at hA;obtain⟨⟨rfl,rfl⟩,-⟩:=hA;simp only[Nat.zero_mul,Nat.add_zero] at z3 z4;have HN:Hid (∀ h:Np.SigOk a.data.toList l k l[k],∀ j g,j<k+1->l[j]?=some g->Np.SigOk a.data.toList l j g):=jq (λh=>NF ab HA.out h);have HF:Hid (¬ Np.SigOk a.data.toList l k l[k]->r=false):=jq (λh=>HR.out ▸ LW ab h);have HZ:=jq tF;have qr:=jq ab;have HS:=jq hs;have yj:=HB.out.size;have uO:b<wr.heap.size:=by omega
    have aZ:Hid (∀ o n,Below w.heap.size w ((wr.alloc o).drewN n)):=jq (λo n=>below_drewN (HB.out.alloc HB.out.size _) _);have mO:Hid (∀ o,Below w.heap.size w (wr.alloc o)):=jq (λo=>(HB.out.alloc HB.out.size _));have bO:(0:Int)<=(k:Int):=by omega
    have bM:(k:Int)<(l.length:Int):=by omega
    have bj:(0:Int)<(l.length:Int):=by omega
    have DR:Hid (∀ m,k=m+1->∃ y,l[m]?=some y/\wr.cell? ⟨b,o+m * 6+1,none⟩=some (.int .i64 y.key)):=jq (λm hm=>by
     obtain⟨b2,o2,c2,s2,hA,_,_,_,_,y1,_⟩:=mJ cD (aQ (show m<l.length by omega));simp only[Value.slice.injEq,Option.some.injEq,Addr.mk.injEq,and_true,true_and] at hA;obtain⟨⟨rfl,rfl⟩,-⟩:=hA;exact⟨_,aQ (by omega),y1⟩)
    generalize l[k]=x at *;generalize l[0]=x0 at *;clear cD hs ab tF z1 z2;have pz:((!s.toList == a.toList)=true)\/(!s.toList == a.toList)=false/\(decide (x.key<1)=true\/decide (x.key<1)=false/\(decide (1000000<x.key)=true\/decide (1000000<x.key)=false/\(decide (x.alg<1)=true\/decide (x.alg<1)=false/\(decide (3<x.alg)=true\/decide (3<x.alg)=false/\(decide (x.frm<0)=true\/decide (x.frm<0)=false/\(decide (x.til<x.frm)=true\/decide (x.til<x.frm)=false/\(decide (20000000<x.til)=true\/decide (20000000<x.til)=false))))))):=by
     simp only[Qa,decide_eq_false_iff_not];by_cases q:s.toList=a.toList
     ·simp[q];omega
     ·exact .inl (by simpa using q)
    rcases pz with d1 | ⟨d1,d2 | ⟨d2,d3 | ⟨d3,d4 | ⟨d4,d5 | ⟨d5,d6 | ⟨d6,d7 | ⟨d7,d8 | d8⟩⟩⟩⟩⟩⟩⟩
    rotate_right
    ·by_cases gV:k=0
     ·have jC:decide ((0:Int)<(k:Int))=false:=by simp;omega
      have iT:decide (0<k)=false:=by simp;omega
      have bk:Hid (Np.SigOk a.data.toList l k x):=jq (by
       have e1:s.toList=a.toList:=by simpa using d1
       rw[dQ,dQ] at e1;simp only[decide_eq_false_iff_not] at d2 d3 d4 d5 d6 d7 d8;have dX:x0=x:=by
        have h1:=HZ.out;rw[<-gV,qr.out] at h1;exact (Option.some.inj h1).symm
       refine⟨by rw[<-HS.out,e1],by omega,by omega,by omega,λq hq=>?_,λp _ h0=>by omega⟩;rw[HZ.out] at hq;cases hq;rw[dX];exact⟨rfl,rfl⟩)
      clear gV;go_wp2_with fail;go_quiet (fail);go_wp2_with fail;go_roundw
      case rel=>exact⟨k+1,by omega,by go_num,jq (aZ.out _ _),jq (HN.out bk.out)⟩
      case measure=>simp[intOf] <;> omega
     ·obtain⟨m,rfl⟩:∃ m,k=m+1:=⟨k - 1,by omega⟩;obtain⟨y,hy,y1⟩:=DR.out m rfl;have HY:=jq hy;have jC:decide ((0:Int)<((m+1:Nat):Int))=true:=by simp
      have ah:IntKind.i64.wrap (((m+1:Nat):Int) - 1)=(m:Int):=by rw[IntWalk.i64_in _ (by omega)];omega
      have my:(0:Int)<=(m:Int):=by omega
      have pF:(m:Int)<(l.length:Int):=by omega
      have Tz:((x.frm != x0.frm)=true)\/(x.frm != x0.frm)=false/\((x.til != x0.til)=true\/(x.til != x0.til)=false/\(decide (x.key<=y.key)=true\/decide (x.key<=y.key)=false)):=by
       simp only[bne_iff_ne,bne_eq_false_iff_eq,Qa,decide_eq_false_iff_not];omega
      clear hy gV;rcases Tz with c1 | ⟨c1,c2 | ⟨c2,c3 | c3⟩⟩
      rotate_right
      ·have bk:Hid (Np.SigOk a.data.toList l (m+1) x):=jq (by
        have e1:s.toList=a.toList:=by simpa using d1
        rw[dQ,dQ] at e1;simp only[decide_eq_false_iff_not,bne_eq_false_iff_eq] at d2 d3 d4 d5 d6 d7 d8 c1 c2 c3;refine⟨by rw[<-HS.out,e1],by omega,by omega,by omega,λq hq=>?_,λp hp h0=>?_⟩
        ·rw[HZ.out] at hq;cases hq;exact⟨c1,c2⟩
        ·rw[show m+1 - 1=m by omega,HY.out] at hp;cases hp;omega)
       go_wp2_with fail;go_quiet (fail);go_wp2_with fail;go_roundw
       case rel=>exact⟨m+1+1,by omega,by go_num,jq (aZ.out _ _),jq (HN.out bk.out)⟩
       case measure=>simp[intOf] <;> omega
      all_goals
       go_wp2_with fail;go_quiet (fail);go_wp2_with fail;go_ret;refine⟨ae (HF.out ?_).symm,aZ.out _ _⟩;intro lW;have k5:=lW.same _ HZ.out;have k6:=lW.up _ HY.out (by omega);simp only[bne_iff_ne,bne_eq_false_iff_eq,Qa,decide_eq_false_iff_not] at *;omega
    all_goals
     go_wp2_with fail;go_ret;refine⟨ae (HF.out ?_).symm,mO.out _⟩;intro lW;obtain⟨k1,k2,k3,k4,_,_⟩:=lW
     first
      | (rw[dQ,dQ,HS.out,k1] at d1;simp at d1;done)
      | (simp only[Qa,decide_eq_false_iff_not] at *;omega)
   ·go_wp2_with fail;go_ret;refine⟨ae ?_,HB.out⟩;rw[<-HR.out];exact (Np.bB ⟨H6.out,λj g hg=>HA.out j g (by have:=(cQ.1 hg).1;omega) hg⟩).symm
 ·have h6':6<l.length:=by omega
  have HF:Hid (r=false):=jq (by rw[<-HR.out];exact Np.aF λhf=>h6 hf.1);clear h6;go_enter func272,ntmps272;go_wp2_with fail;go_ret;exact⟨ae HF.out.symm,vQ _ _⟩
theorem Oz(s:ByteArray)(hs:s.size<=140737488355328)(w:World) :
 Calls prog 242 #[.string s,.string ⟨#[42]⟩] w λe w'=>e = .returned (.bool (Np.dL s.data.toList))/\w=w':=by
 have h1:1<=s.size->((s.extract 0 1).toList == [42])=Np.dL s.data.toList:=L7 s;have h2:s.size<1->Np.dL s.data.toList=false:=λh=>by
  have:s.data.toList = []:=rQ (by rw[aU];omega)
  rw[this];rfl
 have H1:=jq h1;have H2:=jq h2;clear h1 h2;go_enter func242,ntmps242;go_wp2
 ·go_ret;exact⟨ae (H1.out (by omega)),rfl⟩
 ·go_ret;exact⟨ae (H2.out (by omega)).symm,rfl⟩
def nP(l:List Np.Signed)(k:Nat):Option Np.DSet:=(l.take k).getLast?.map (·.set)
theorem CL{l:List Np.Signed}{k:Nat}{x:Np.Signed}(h:l[k]?=some x):nP l (k+1)=some x.set:=by
 obtain⟨hl,rfl⟩:=cQ.1 h;unfold nP;rw[fQ hl,List.getLast?_append];rfl
theorem Ox{apex:List UInt8}{l:List Np.Signed}{k:Nat}{x:Np.Signed}(h:l[k]?=some x)(p:Option Np.DSet) :
 Np.iJ apex p (l.drop k)=((Np.aC x.set.name&&Np.bg x.set.name apex)&&Np.cW x.set&&(match p with | none=>true | some q=>decide (Np.fW q x.set<0))&&Np.iJ apex (some x.set) (l.drop (k+1))):=by
 obtain⟨hl,rfl⟩:=cQ.1 h;rw[sQ hl]
 cases p <;> rfl
def QT(w1:World)(apex:List UInt8)(l:List Np.Signed)(i:Value)(wr:World):Prop:=
 ∃ k:Nat,k<=l.length/\i = .int .i64 k/\Below w1.heap.size w1 wr/\Hid (∀ j x,j<k->l[j]?=some x->Np.cW x.set=true)/\Hid (Np.iJ apex none l=Np.iJ apex (nP l k) (l.drop k))
theorem aaQ(a:ByteArray)(ha:a.size<=140737488355328)(v:Value)(l:List Np.Signed)(bI:l.length<=20000)(w:World)(hR:iH w w.heap.size)(hd:SlR bh 5 w w.heap.size v l) :
 Calls prog 198 #[.agg #[.string a,v]] w λe w'=>e = .returned (.bool (Np.dZ ⟨a.data.toList,l⟩))/\Below w.heap.size w w':=by
 have HR:=jq hR;have HD:=jq hd;obtain⟨A,c,rfl,bw,bT,-⟩:=hd;clear hR;have HW:Hid (∀ o,Below w.heap.size w (w.alloc o)):=jq (λo=>(vQ _ w).alloc (bQ _) _);go_enter func198,ntmps198;go_wp2_with fail;refine (nameValid_any _ ha _).mono ?_;rintro e w1 ⟨rfl,hb⟩;have c0:w1.cell? ⟨w.heap.size,0,none⟩=some (.string a):=by rw[hb.cell (by simp)];go_simp
 have c1:w1.cell? ⟨w.heap.size,1,none⟩=some (.slice A l.length c):=by rw[hb.cell (by simp)];go_simp
 have du:w.heap.size<w1.heap.size:=by have:=hb.size;simp at this;omega
 have aq:=jq ((HW.out _).trans (hb.mono (by simp)));clear hb
 cases oG:Np.aC a.data.toList with
 | false=>
  have HF:Hid (Np.dZ ⟨a.data.toList,l⟩=false):=jq (by unfold Np.dZ;rw[oG];rfl);clear oG;go_wp2_with fail;go_ret;exact⟨ae HF.out.symm,aq.out⟩
 | true=>
  have ut:=jq oG;clear oG
  cases pZ:Np.dL a.data.toList with
  | true=>
   have HF:Hid (Np.dZ ⟨a.data.toList,l⟩=false):=jq (by unfold Np.dZ;rw[pZ];simp);go_wp2_with (go_at_call 242;refine (Oz a ha _).mono ?_;rintro e w' ⟨rfl,rfl⟩);go_ret;exact⟨ae HF.out.symm,aq.out⟩
  | false=>
   have HF:Hid (Np.dZ ⟨a.data.toList,l⟩=Np.iJ a.data.toList none l):=jq (by unfold Np.dZ;rw[pZ,ut.out];simp);go_wp2_with (go_at_call 242;refine (Oz a ha _).mono ?_;rintro e w' ⟨rfl,rfl⟩);clear pZ;go_loopw [30] (λi wr=>QT w1 a.data.toList l i wr) (λi _=>l.length - (intOf i).toNat)
   case atStart=>exact⟨0,jQ _,rfl,vQ _ _,jq (λj x hj=>by omega),jq rfl⟩
   case round=>
    obtain⟨k,hk,rfl,aG,HV,HG⟩:=hrel;by_cases aa:k<l.length
    ·have kA:Below w.heap.size w wr:=aq.out.trans (aG.mono (by omega));have ab:=aQ aa;obtain⟨b,o,c',sn,dv,sv,hA,bJ,_,ay,an,aW,aM,e0,e1,e2,e3,e4⟩:=eq (HD.out.keep aX kA) ab
     cases hA
     generalize hx:l[k]=x at *;clear hx;obtain⟨Ad,cd,rfl,Fg,Uq⟩:=al aW;obtain⟨As,cs,rfl,hcs,hls⟩:=al aM;have d0:wr.cell? ⟨w.heap.size,0,none⟩=some (.string a):=by rw[aG.cell (by simpa using du)];exact c0
     have d1:wr.cell? ⟨w.heap.size,1,none⟩=some (.slice (some ⟨b,o,none⟩) l.length c):=by rw[aG.cell (by simpa using du)];exact c1
     have cZ:w.heap.size<wr.heap.size:=by have:=aG.size;omega
     have oY:=jq aW;have HX:=jq ab;have aL:=jq ay;have aP:=jq aG;have ub:=jq kA;have se:=jq (HG.out.trans (Ox ab (nP l k)));clear aW aM ab ay aG kA c0 c1;go_wp2_with fail;have kZ:Below wr.heap.size wr (wr.alloc (.cells #[.string sn,.int .i64 x.set.type,.int .i64 x.set.life,.slice Ad x.set.data.length cd,.slice As x.sigs.length cs] 42)):=(vQ _ _).alloc (bQ _) _;have p0:=World.cell?_alloc_new wr #[.string sn,.int .i64 x.set.type,.int .i64 x.set.life,.slice Ad x.set.data.length cd,.slice As x.sigs.length cs] 42 0;have p1:=World.cell?_alloc_new wr #[.string sn,.int .i64 x.set.type,.int .i64 x.set.life,.slice Ad x.set.data.length cd,.slice As x.sigs.length cs] 42 1;have fo:wr.heap.size<(wr.alloc (.cells #[.string sn,.int .i64 x.set.type,.int .i64 x.set.life,.slice Ad x.set.data.length cd,.slice As x.sigs.length cs] 42)).heap.size:=by simp
     generalize wr.alloc (.cells #[.string sn,.int .i64 x.set.type,.int .i64 x.set.life,.slice Ad x.set.data.length cd,.slice As x.sigs.length cs] 42)=wa at kZ p0 p1 fo |-;have eW:=jq kZ;have rV:=jq (ub.out.trans (kZ.mono (by omega)));replace p0:wa.cell? ⟨wr.heap.size,0,none⟩=some (.string sn):=p0;replace p1:wa.cell? ⟨wr.heap.size,1,none⟩=some (.int .i64 x.set.type):=p1;replace d0:wa.cell? ⟨w.heap.size,0,none⟩=some (.string a):=by rw[kZ.cell (by simpa using cZ)];exact d0
     replace d1:wa.cell? ⟨w.heap.size,1,none⟩=some (.slice (some ⟨b,o,none⟩) l.length c):=by rw[kZ.cell (by simpa using cZ)];exact d1
     clear kZ e0 e1 e2 e3 e4;refine (M7 sn an _ _ _ x.set.data _ ((HR.out.keep rV.out).more (by omega)) ((oY.out.keep de (eW.out.mono (by omega))).more eN (by omega))).mono ?_;have ry:(⟨sn.data.toList,x.set.type,x.set.life,x.set.data⟩:Np.DSet)=x.set:=by rw[aL.out]
     rw[ry];clear ry;rintro e w2 ⟨rfl,ac⟩;have aJ:wr.heap.size<w2.heap.size:=by have:=ac.size;omega
     have apK:w.heap.size<w2.heap.size:=by omega
     replace d0:w2.cell? ⟨w.heap.size,0,none⟩=some (.string a):=by rw[ac.cell (by simp;omega)];exact d0
     replace d1:w2.cell? ⟨w.heap.size,1,none⟩=some (.slice (some ⟨b,o,none⟩) l.length c):=by rw[ac.cell (by simp;omega)];exact d1
     replace p0:w2.cell? ⟨wr.heap.size,0,none⟩=some (.string sn):=by rw[ac.cell (by simpa using fo)];exact p0
     replace p1:w2.cell? ⟨wr.heap.size,1,none⟩=some (.int .i64 x.set.type):=by rw[ac.cell (by simpa using fo)];exact p1
     have aj:=jq (rV.out.trans (ac.mono (by omega)));have OP:=jq (eW.out.trans (ac.mono (by omega)));clear ac
     cases eL:Np.cW x.set with
     | false=>
      have jl:=jq eL;clear eL;go_wp2_with fail;go_ret;refine⟨ae ?_,aj.out⟩;rw[HF.out,se.out,jl.out,Bool.and_false];rfl
     | true=>
      have jl:=jq eL;have kc:Np.aC sn.data.toList=true:=by rw[aL.out];exact CH eL
      have gi:=jq kc;have yb:∀ j y,j<k+1->l[j]?=some y->Np.cW y.set=true:=λj y hj hy=>by
       by_cases e:j=k
       ·subst e;rw[HX.out] at hy;cases hy;exact eL
       ·exact HV.out j y (by omega) hy
      have nT:=jq yb;clear eL kc yb;go_wp2_with fail;refine (GQ sn a an ha _ gi.out ut.out).mono ?_;rintro e w3 ⟨rfl,ak⟩;have el:wr.heap.size<w3.heap.size:=by have:=ak.size;omega
      have apX:w.heap.size<w3.heap.size:=by omega
      replace d1:w3.cell? ⟨w.heap.size,1,none⟩=some (.slice (some ⟨b,o,none⟩) l.length c):=by rw[ak.cell (by simp;omega)];exact d1
      replace p0:w3.cell? ⟨wr.heap.size,0,none⟩=some (.string sn):=by rw[ak.cell (by simpa using aJ)];exact p0
      replace p1:w3.cell? ⟨wr.heap.size,1,none⟩=some (.int .i64 x.set.type):=by rw[ak.cell (by simpa using aJ)];exact p1
      have ar:=jq (aj.out.trans (ak.mono (by omega)));have Hd:=jq (OP.out.trans (ak.mono (by omega)));clear ak d0
      cases dE:Np.bg sn.data.toList a.data.toList with
      | false=>
       have xd:=jq dE;clear dE;go_wp2_with fail;go_ret;refine⟨ae ?_,ar.out⟩;rw[HF.out,se.out,<-aL.out,gi.out,xd.out];rfl
      | true=>
       have cP:=jq (show Np.iJ a.data.toList none l=((match nP l k with | none=>true | some q=>decide (Np.fW q x.set<0))&&Np.iJ a.data.toList (nP l (k+1)) (l.drop (k+1))) by
        rw[se.out,<-aL.out,gi.out,dE,jl.out,CL HX.out];rfl)
       clear dE;by_cases bO:k=0
       ·subst bO;go_wp2_with fail;go_roundw
        case rel=>exact⟨1,by omega,by go_num,aP.out.trans (Hd.out.mono aP.out.size),nT,jq (by rw[cP.out];rfl)⟩
        case measure=>simp[intOf] <;> omega
       ·obtain⟨i,rfl⟩:∃ i,k=i+1:=⟨k - 1,by omega⟩;have pD:=aQ (show i<l.length by omega);obtain⟨b',o',c'',sq,dq,sg,nk,yf,_,jE,Lw,yn,_,f0,f1,f2,f3,_⟩:=eq ((HD.out.keep aX ar.out)) pD
        cases nk
        have za:=CH (HV.out i l[i] (by omega) pD);generalize hy:l[i]=y at *;clear hy;obtain⟨Aq,cq,rfl,TG,K0⟩:=al yn;have vl:((((i+1:Nat):Int)) == 0)=false:=by simp;omega
        have QC:Hid (Np.aC sq.data.toList=true):=jq (by rw[jE];exact za);have Pi:Hid (Np.eh (sq.data.toList,y.set.type) (sn.data.toList,x.set.type)=Np.fW y.set x.set):=jq (by rw[jE,aL.out,Np.Eu];rfl);have sA:=jq (CL pD);clear yn jE pD za;have afZ:b<w3.heap.size:=by omega
        have ah:IntKind.i64.wrap (((i+1:Nat):Int) - 1)=(i:Int):=by rw[IntWalk.i64_in _ (by omega)];omega
        have my:(0:Int)<=(i:Int):=by omega
        have pF:(i:Int)<(l.length:Int):=by omega
        have qn:Hid (∀ o,Below w3.heap.size w3 (w3.alloc o)):=jq (λo=>(vQ _ _).alloc (bQ _) _);go_wp2_with fail;refine (Oy sq sn Lw an _ _ QC.out gi.out _).mono ?_;rw[Pi.out];rintro e w4 ⟨rfl,av⟩;have ba:=jq ((qn.out _).trans (av.mono (by simp)));clear av;by_cases fi:Np.fW y.set x.set<0
        ·have jJ:=jq (uQ fi);have Fj:¬ (0<=Np.fW y.set x.set):=by omega
         clear fi;go_wp2_with fail;go_roundw
         case rel=>
          refine⟨i+1+1,by omega,by go_num,aP.out.trans ((Hd.out.trans (ba.out.mono (by omega))).mono aP.out.size),nT,jq ?_⟩;rw[cP.out,sA.out];simp only[jJ.out,Bool.true_and]
         case measure=>simp[intOf] <;> omega
        ·have jJ:=jq (tQ fi);have Fj:0<=Np.fW y.set x.set:=by omega
         clear fi;go_wp2_with fail;go_ret;refine⟨ae ?_,ar.out.trans (ba.out.mono (by omega))⟩;rw[HF.out,cP.out,sA.out];simp only[jJ.out,Bool.false_and]
    ·go_wp2_with fail;go_ret;refine⟨ae ?_,aq.out.trans (aG.mono (by omega))⟩;rw[HF.out,HG.out,List.drop_eq_nil_of_le (by omega)];rfl
end
section
open Go.ChangeShapes Go.WideShapes Go.ChangeAt Go.RowKit Go.Deep
def gB{α:Type}(P:Program)(t:TypeId)(sz:Nat)(R:World->Nat->List Value->α->Prop):Prop:=
 ∀ (H:Type) (enc:TypeId×Value->H) (W:World) (base:Nat) (spare:Nat->Bool) (held:Bool) (fuel:Nat) (cs:List Value) (d:DataW H) (ps:List MemPlace),
   DataW.trod enc P W base spare held fuel t cs=some (d,ps)->(∀ n∈d.weights P t,n<=reachBytes)->cs.length=sz/\∃ x,R W W.heap.size cs x
def RNum(k:IntKind)(_:World)(_:Nat)(e:List Value)(x:Int):Prop:=e = [.int k x]/\(Lit.int k x).wf=true
theorem jb{P:Program}{t:TypeId}{k:IntKind}(ht:P.underlying t=some (.int k)):gB P t 1 (RNum k):=by
 intro H enc W base spare held fuel cs d ps h _;obtain⟨n,rfl,_,Vj⟩:=DataW.trod_int ht h;exact⟨rfl,n,rfl,Vj⟩
def RStr(_:World)(_:Nat)(e:List Value)(x:List UInt8):Prop:=∃ s:ByteArray,s.data.toList=x/\s.size<=140737488355328/\e = [.string s]
theorem vG{P:Program}{t:TypeId}(ht:P.underlying t=some .string):gB P t 1 RStr:=by
 intro H enc W base spare held fuel cs d ps h hw;obtain⟨s,rfl,hx,_⟩:=DataW.trod_string ht h;simp only[Prod.mk.injEq] at hx;rw[hx.1] at hw
 have:=hw s.data.toList.length (by simp[DataW.weights])
 have h2:=reachBytes_lt;exact⟨rfl,s.data.toList,s,rfl,by rw[aU] at this;omega,rfl⟩
def RSl{α:Type}(R:World->Nat->List Value->α->Prop)(sz:Nat)(W:World)(B:Nat)(e:List Value)(xs:List α):Prop:=∃ v,e = [v]/\SlR R sz W B v xs
theorem RSl.more{α:Type}{R:World->Nat->List Value->α->Prop}{sz:Nat}(h:dw R):dw (RSl R sz):=λ_ _ _ _ _ ⟨v,hv,hs⟩ hb=>⟨v,hv,hs.more h hb⟩
theorem Oh{H:Type}{P:Program}{e:TypeId} : ∀ {ds:List (DataW H)} {d:DataW H},d∈ds->∀ n∈d.weights P e,n∈DataW.weightsAll P e ds
 | d0::ds,d,hd,n,hn=>by
   simp only[DataW.weightsAll,List.mem_append];rcases List.mem_cons.1 hd with rfl | hd
   ·exact .inl hn
   ·exact .inr (Oh hd n hn)
theorem Jj(b o n:Nat):(⟨b,o,none⟩:Addr).add n=⟨b,o+n,none⟩:=by
 unfold Addr.add;split
 ·rename_i h;subst h;rfl
 ·rfl
theorem QX{W:World}{a:Addr}{v:Value}(h:W.cell? a=some v):a=⟨a.block,a.off,none⟩:=by
 have:=World.cell?_spot h
 cases a;simp_all
theorem vF{α:Type}{P:Program}{t e:TypeId}{sz:Nat}{R:World->Nat->List Value->α->Prop}(ht:P.underlying t=some (.slice e))(hC:P.cellsOf e=sz)(an:0<sz)(hb:0<P.bytesOf e)(hR:gB P e sz R):gB P t 1 (RSl R sz):=by
 intro H enc W base spare held fuel cs d ps h hw;rcases open_slice ht h with ⟨rfl,_⟩ | ⟨a,len,cap,m,n,D,Pl,rfl,kZ,hl,hm,nF,hx,hi⟩
 ·exact⟨rfl,[],_,rfl,none,0,rfl,by simp,by simp,λi x hx=>by simp at hx⟩
 ·simp only[Prod.mk.injEq] at hx;rw[hx.1] at hw;have rj:len<=m:=by rw[nF];split <;> omega
  have hlen:len<=140737488355328:=by
   have:=hw ((((List.range len).map D).length+((List.range (m - len)).map λj=>D (len+j)).length) * P.bytesOf e) (by simp[DataW.weights,ht])
   simp only[List.length_map,List.length_range] at this;have h2:=reachBytes_lt;have h3:len+(m - len)<=(len+(m - len)) * P.bytesOf e:=Nat.le_mul_of_pos_right _ hb;omega
  have bK:∀ i,i<len->∃ x cs',W.cells? base (a.add (i * sz)) sz=some cs'/\cs'.length=sz/\R W W.heap.size cs' x:=λi dt=>by
   obtain⟨cs',hc,Vc⟩:=hi i (by omega);rw[hC] at hc;obtain⟨h1,x,h2⟩:=hR H enc W base spare held n cs' (D i) (Pl i) Vc (λk hk=>hw k (by
    simp only[DataW.weights,ht];exact mQ _ (List.mem_append_left _ (Oh (List.mem_map.2 ⟨i,List.mem_range.2 dt,rfl⟩) k hk))))
   exact⟨x,cs',hc,h1,h2⟩
  have aH:∀ k,k<=len->∃ xs:List α,xs.length=k/\∀ i x,xs[i]?=some x->∃ cs',W.cells? base (a.add (i * sz)) sz=some cs'/\cs'.length=sz/\R W W.heap.size cs' x:=by
   intro k
   induction k with
   | zero=>exact λ_=>⟨[],rfl,λi x hx=>by simp at hx⟩
   | succ k ih=>
    intro hk;obtain⟨xs,mE,l3⟩:=ih (by omega);obtain⟨x,hx⟩:=bK k (by omega);refine⟨xs ++ [x],by simp[mE],λi y hy=>?_⟩;rcases Nat.lt_or_ge i xs.length with aa | lP
    ·rw[List.getElem?_append_left aa] at hy;exact l3 i y hy
    ·rw[oQ lP] at hy
     have:i - xs.length=0:=by
      have:=(cQ.1 hy).1
      simp at this;omega
     rw[this] at hy;simp at hy;subst hy;rw[show i=k by omega];exact hx
  obtain⟨xs,mE,l3⟩:=aH len (bQ _);refine⟨rfl,xs,_,rfl,some a,cap,by rw[mE],by omega,by omega,λi x hx=>?_⟩;have h0:0<len:=by have:=(cQ.1 hx).1;omega
  obtain⟨c0,Fc,afJ,_⟩:=l3 0 _ (aQ (by omega));obtain⟨_,_,TD⟩:=World.cells?_some Fc;have ha:a=⟨a.block,a.off,none⟩:=by
   have h1:=TD 0 an;rw[show (a.add (0 * sz)).add 0=a by simp[Addr.add]] at h1;rw[aQ (by omega)] at h1;exact QX h1
  obtain⟨cs',hc,kB,Bm⟩:=l3 i x hx;obtain⟨_,_,TC⟩:=World.cells?_some hc;have hce:ag W a.block (a.off+i * sz) cs':=λj u hj=>by
   have lR:=(cQ.1 hj).1;have h1:=TC j (by omega);rw[hj,ha] at h1;have h2:((⟨a.block,a.off,none⟩:Addr).add (i * sz)).add j=⟨a.block,a.off+i * sz+j,none⟩:=by
    rw[Jj,Jj]
   rw[h2] at h1;exact h1
  refine⟨a.block,a.off,cs',by rw[<-ha],?_,kB,hce,Bm⟩
  have:=World.block_lt_of_cell? W _ (hce 0 _ (aQ (by omega)))
  exact this
theorem qg{P:Program}{t:TypeId}{fs:Array Field}(hs:P.underlying t=some (.struct fs)){H:Type}{enc:TypeId×Value->H}{W:World}{base:Nat}{spare:Nat->Bool}{held:Bool}{fuel:Nat}{cs:List Value}{d:DataW H}{ps:List MemPlace}
 (h:DataW.trod enc P W base spare held fuel t cs=some (d,ps)) (hw:∀ n∈d.weights P t,n<=reachBytes) :
 cs.length=P.cellsOf t/\∀ (j:Nat) (f:Field),fs[j]?=some f->∃ n d' ps',DataW.trod enc P W base spare held n f.type ((cs.drop f.offset).take (P.cellsOf f.type))=some (d',ps')/\∀ k∈d'.weights P f.type,k<=reachBytes:=by
 obtain⟨ys,n,_,hx,hl,hyl,hf⟩:=DataW.trod_struct hs h;simp only[Prod.mk.injEq] at hx;refine⟨hl,λj f hj=>?_⟩;have lR:j<fs.size:=(eQ.1 hj).1;have h1:=hf j f hj;rw[aQ (by omega)] at h1;refine⟨n,_,_,h1,λk hk=>hw k ?_⟩;rw[hx.1];simp only[DataW.weights,hs];refine DataW.weights_mem_each (j:=j) (t:=f.type) (d:=(ys[j]'(by omega)).1) ?_ ?_ k hk
 ·simp[hj]
 ·simp[aQ (show j<ys.length by omega)]
theorem Ju{H:Type}{enc:TypeId×Value->H}{P:Program}(hl:laidOutB P=true){W W':World}(hb:Below W.heap.size W W') :
 ∀ {ts:List TypeId} {vs:List Value} {ds:List (DataW H)} {ps:List MemPlace},(∀ t∈ts,P.readableRec t=true/\t<P.types.size)->DataW.TrodAll enc P W 0 (λ_=>true) true ts vs ds ps->(∀ x∈ps,x.block<W.heap.size)->
   DataW.TrodAll enc P W' 0 (λb=>decide (b<W.heap.size)) true ts vs ds ps
 | [],[],[],_,_,h,_=>h
 | t::ts,v::vs,d::ds,ps,hr,h,aa=>by
   obtain⟨p,q,h1,h2,rfl⟩:=h;have ht:=hr t (by simp);exact⟨p,q,Below.trod hl ht.1 ht.2 h1 hb (λx hx=>aa x (by simp[hx])),Ju hl hb (λt ht=>hr t (by simp[ht])) h2 (λx hx=>aa x (by simp[hx])),rfl⟩
 | [],_::_,_,_,_,h,_=>h.elim
 | [],[],_::_,_,_,h,_=>h.elim
 | _::_,[],_,_,_,h,_=>h.elim
 | _::_,_::_,[],_,_,h,_=>h.elim
theorem Ml{H:Type}{enc:TypeId×Value->H}{P:Program}{f:Func}{s:ChangeSpec}{W W':World}{args:Array Value}{v:Value}{ds gs:List (DataW H)}{before:List MemPlace}
 (hl:laidOutB P=true) (hr:∀ t∈f.params.toList,P.readableRec t=true/\t<P.types.size) (eL:s.vars = [])
 (hW:DataW.Whole enc P f.params.toList s.vars false W args.toList ds gs before) (hb:Below W.heap.size W W')
 (pT:∀ (b:Nat) (sp:Nat->Bool) (hd:Bool),DataW.TrodAll enc P W' b sp hd f.resultTypes.toList (v.resultList f.resultTypes.size) (s.fn H (ds++gs)).results [])
 (yc:(s.fn H (ds++gs)).args=ds) (Vf:(s.fn H (ds++gs)).vars = []) :
 s.post enc P f false true false false W args v W':=by
 have aa:=hW.lt;have hW':=hW;obtain⟨p,q,hA,hV,rfl,_,_⟩:=hW;rw[eL] at hV;have hq:q = []:=by
  cases gs with
  | nil=>exact hV
  | cons _ _=>exact hV.elim
 subst hq;refine⟨ds,gs,_,[],p,[],hW',pT _ _ _,?_,?_,World.keptBut_mono (λx hx=>⟨hx,.inr (by simpa using hx)⟩) (hb.frame (·∈p ++ [])),λh=>by cases h⟩
 ·rw[yc];exact Ju hl hb hr hA (λx hx=>aa x (by simp[hx]))
 ·rw[Vf,eL];rfl
theorem uA:prog.cellsOf 9=1:=by kernel_rfl
theorem lo:laidOutB prog=true:=by kernel_rfl
end
end Go.Proofs.YtfnopgdcaanaiaaGreatDoor
