/- Parts of the proof. No condition. -/
import Derived.IntWalk
import Derived.Deep.LoopGhost
import Derived.Test.YtfnopgdcaanaiaaGreatDoorK06
set_option linter.all false
set_option maxRecDepth 100000
set_option maxHeartbeats 8000000
namespace Go.Proofs.YtfnopgdcaanaiaaGreatDoor
open Go.Proofs.Tryz
section
open Go.RowKit
theorem om{w:World}{B:Nat}{v:Value}{xs:List Np.Sig}(h:SlR dm 6 w B v xs){k:Nat}{x:Np.Sig}(hx:xs[k]?=some x):∃ (b o c:Nat) (s:ByteArray),v = .slice (some ⟨b,o,none⟩) xs.length c/\b<B/\s.data.toList=x.zone/\s.size<=140737488355328/\
 w.cell? ⟨b,o+k * 6,none⟩=some (.string s)/\w.cell? ⟨b,o+k * 6+1,none⟩=some (.int .i64 x.key)/\w.cell? ⟨b,o+k * 6+2,none⟩=some (.int .i64 x.alg)/\w.cell? ⟨b,o+k * 6+3,none⟩=some (.int .i64 x.frm)/\w.cell? ⟨b,o+k * 6+4,none⟩=some (.int .i64 x.til)/\w.cell? ⟨b,o+k * 6+5,none⟩=some (.int .u64 x.sum):=by
 obtain⟨A,c,rfl,hc,_,he⟩:=h;obtain⟨b,o,e,rfl,hb,_,hce,s,h1,h2,rfl⟩:=he k x hx;exact⟨b,o,c,s,rfl,hb,h1,h2,by have:=hce 0 _ rfl;simpa using this,hce 1 _ rfl,hce 2 _ rfl,hce 3 _ rfl,hce 4 _ rfl,hce 5 _ rfl⟩
theorem M8(t:Int)(b:Bool)(w:World) :
 Calls prog 271 #[.int .i64 t,.bool b] w λe w'=>e = .returned (.bool (Np.jl t b))/\w=w':=by
 unfold Np.jl;go_enter func271,ntmps271;go_wp2_with fail
 all_goals
  go_ret;refine⟨ag ?_,rfl⟩;simp_all
theorem Po{a:List UInt8}{l:List Np.Sig}{k:Nat}{x:Np.Sig}(hx:l[k]?=some x)(h:¬ Np.SigOk a l k x):Np.yes (Np.fT a l)=false:=Np.aN λhf=>h (hf.2 k x hx)
theorem Ra{a:List UInt8}{l:List Np.Sig}{k:Nat}{x:Np.Sig}(hx:l[k]?=some x)(h:∀ j g,j<k->l[j]?=some g->Np.SigOk a l j g)(hk:Np.SigOk a l k x):∀ j g,j<k+1->l[j]?=some g->Np.SigOk a l j g:=λj g hj hg=>by
 by_cases e:j=k
 ·subst e;rw[hx] at hg;cases hg;exact hk
 ·exact h j g (by omega) hg
theorem Zy(a:ByteArray)(v:Value)(l:List Np.Sig)(w:World)(h:SlR dm 6 w w.heap.size v l) :
 Calls prog 272 #[v,.string a] w λe w'=>e = .returned (.bool (Np.yes (Np.fT a.data.toList l)))/\Below w.heap.size w w':=by
 obtain⟨r,hr⟩:∃ r,Np.yes (Np.fT a.data.toList l)=r:=⟨_,rfl⟩;rw[hr];have HR:=jq hr;have H:=jq h;obtain⟨A,c,rfl,bD,bL⟩:=al h;clear h hr;by_cases h6:l.length<=6
 ·have H6:=jq h6;go_enter func272,ntmps272;go_wp2_with fail;go_loopw [12] (λi wr=>∃ k:Nat,k<=l.length/\i = .int .i64 k/\Hid (Below w.heap.size w wr)/\Hid (∀ j g,j<k->l[j]?=some g->Np.SigOk a.data.toList l j g)) (λi _=>l.length - (intOf i).toNat)
  case atStart=>exact⟨0,jQ _,rfl,jq (vQ _ _),jq (λj g hj=>by omega)⟩
  case round=>
   obtain⟨k,hk,rfl,HB,HA⟩:=hrel;by_cases aa:k<l.length
   ·have da:=H.out.keep dH HB.out;have ab:=aQ aa;obtain⟨b,o,c',s,hA,bU,hs,ap,e0,e1,e2,e3,e4,e5⟩:=om da ab
    cases hA
    have wE:=aQ (show 0<l.length by omega);obtain⟨b',o',c'',s',hA,_,_,_,_,z1,z2,z3,z4,_⟩:=om da wE;simp only[Value.slice.injEq,Option.some.injEq,Addr.mk.injEq,and_true,true_and] at hA;obtain⟨⟨rfl,rfl⟩,-⟩:=hA;simp only[Nat.zero_mul,Nat.add_zero] at z3 z4;have HN:Hid (∀ h:Np.SigOk a.data.toList l k l[k],∀ j g,j<k+1->l[j]?=some g->Np.SigOk a.data.toList l j g):=jq (λh=>Ra ab HA.out h);have HF:Hid (¬ Np.SigOk a.data.toList l k l[k]->r=false):=jq (λh=>HR.out ▸ Po ab h);have HZ:=jq wE;have sJ:=jq ab;have HS:=jq hs;have kF:=HB.out.size;have yi:b<wr.heap.size:=by omega
    have bg:Hid (∀ o n,Below w.heap.size w ((wr.alloc o).drewN n)):=jq (λo n=>below_drewN (HB.out.alloc HB.out.size _) _);have oz:Hid (∀ o,Below w.heap.size w (wr.alloc o)):=jq (λo=>(HB.out.alloc HB.out.size _));have bX:(0:Int)<=(k:Int):=by omega
    have bW:(k:Int)<(l.length:Int):=by omega
    have bh:(0:Int)<(l.length:Int):=by omega
    have GN:Hid (∀ m,k=m+1->∃ y,l[m]?=some y/\wr.cell? ⟨b,o+m * 6+1,none⟩=some (.int .i64 y.key)):=jq (λm hm=>by
     obtain⟨b2,o2,c2,s2,hA,_,_,_,_,y1,_⟩:=om da (aQ (show m<l.length by omega));simp only[Value.slice.injEq,Option.some.injEq,Addr.mk.injEq,and_true,true_and] at hA;obtain⟨⟨rfl,rfl⟩,-⟩:=hA;exact⟨_,aQ (by omega),y1⟩)
    generalize l[k]=x at *;generalize l[0]=x0 at *;clear da hs ab wE z1 z2;have rt:((!s.toList == a.toList)=true)\/(!s.toList == a.toList)=false/\(decide (x.key<1)=true\/decide (x.key<1)=false/\(decide (1000000<x.key)=true\/decide (1000000<x.key)=false/\(decide (x.alg<1)=true\/decide (x.alg<1)=false/\(decide (3<x.alg)=true\/decide (3<x.alg)=false/\(decide (x.frm<0)=true\/decide (x.frm<0)=false/\(decide (x.til<x.frm)=true\/decide (x.til<x.frm)=false/\(decide (20000000<x.til)=true\/decide (20000000<x.til)=false))))))):=by
     simp only[Qa,decide_eq_false_iff_not];by_cases q:s.toList=a.toList
     ·simp[q];omega
     ·exact .inl (by simpa using q)
    rcases rt with d1 | ⟨d1,d2 | ⟨d2,d3 | ⟨d3,d4 | ⟨d4,d5 | ⟨d5,d6 | ⟨d6,d7 | ⟨d7,d8 | d8⟩⟩⟩⟩⟩⟩⟩
    rotate_right
    ·by_cases iC:k=0
     ·have iU:decide ((0:Int)<(k:Int))=false:=by simp;omega
      have ie:decide (0<k)=false:=by simp;omega
      have bI:Hid (Np.SigOk a.data.toList l k x):=jq (by
       have e1:s.toList=a.toList:=by simpa using d1
       rw[dQ,dQ] at e1;simp only[decide_eq_false_iff_not] at d2 d3 d4 d5 d6 d7 d8;have fl:x0=x:=by
        have h1:=HZ.out;rw[<-iC,sJ.out] at h1;exact (Option.some.inj h1).symm
       refine⟨by rw[<-HS.out,e1],by omega,by omega,by omega,λq hq=>?_,λp _ h0=>by omega⟩;rw[HZ.out] at hq;cases hq;rw[fl];exact⟨rfl,rfl⟩)
      clear iC;go_wp2_with fail;go_quiet (fail);go_wp2_with fail;go_roundw
      case rel=>exact⟨k+1,by omega,by go_num,jq (bg.out _ _),jq (HN.out bI.out)⟩
      case measure=>simp[intOf] <;> omega
     ·obtain⟨m,rfl⟩:∃ m,k=m+1:=⟨k - 1,by omega⟩;obtain⟨y,hy,y1⟩:=GN.out m rfl;have HY:=jq hy;have iU:decide ((0:Int)<((m+1:Nat):Int))=true:=by simp
      have aj:IntKind.i64.wrap (((m+1:Nat):Int) - 1)=(m:Int):=by rw[IntWalk.i64_in _ (by omega)];omega
      have nT:(0:Int)<=(m:Int):=by omega
      have rB:(m:Int)<(l.length:Int):=by omega
      have Xp:((x.frm != x0.frm)=true)\/(x.frm != x0.frm)=false/\((x.til != x0.til)=true\/(x.til != x0.til)=false/\(decide (x.key<=y.key)=true\/decide (x.key<=y.key)=false)):=by
       simp only[bne_iff_ne,bne_eq_false_iff_eq,Qa,decide_eq_false_iff_not];omega
      clear hy iC;rcases Xp with c1 | ⟨c1,c2 | ⟨c2,c3 | c3⟩⟩
      rotate_right
      ·have bI:Hid (Np.SigOk a.data.toList l (m+1) x):=jq (by
        have e1:s.toList=a.toList:=by simpa using d1
        rw[dQ,dQ] at e1;simp only[decide_eq_false_iff_not,bne_eq_false_iff_eq] at d2 d3 d4 d5 d6 d7 d8 c1 c2 c3;refine⟨by rw[<-HS.out,e1],by omega,by omega,by omega,λq hq=>?_,λp hp h0=>?_⟩
        ·rw[HZ.out] at hq;cases hq;exact⟨c1,c2⟩
        ·rw[show m+1 - 1=m by omega,HY.out] at hp;cases hp;omega)
       go_wp2_with fail;go_quiet (fail);go_wp2_with fail;go_roundw
       case rel=>exact⟨m+1+1,by omega,by go_num,jq (bg.out _ _),jq (HN.out bI.out)⟩
       case measure=>simp[intOf] <;> omega
      all_goals
       go_wp2_with fail;go_quiet (fail);go_wp2_with fail;go_ret;refine⟨ag (HF.out ?_).symm,bg.out _ _⟩;intro mV;have k5:=mV.same _ HZ.out;have k6:=mV.up _ HY.out (by omega);simp only[bne_iff_ne,bne_eq_false_iff_eq,Qa,decide_eq_false_iff_not] at *;omega
    all_goals
     go_wp2_with fail;go_ret;refine⟨ag (HF.out ?_).symm,oz.out _⟩;intro mV;obtain⟨k1,k2,k3,k4,_,_⟩:=mV
     first
      | (rw[dQ,dQ,HS.out,k1] at d1;simp at d1;done)
      | (simp only[Qa,decide_eq_false_iff_not] at *;omega)
   ·go_wp2_with fail;go_ret;refine⟨ag ?_,HB.out⟩;rw[<-HR.out];exact (Np.bO ⟨H6.out,λj g hg=>HA.out j g (by have:=(cQ.1 hg).1;omega) hg⟩).symm
 ·have h6':6<l.length:=by omega
  have HF:Hid (r=false):=jq (by rw[<-HR.out];exact Np.aN λhf=>h6 hf.1);clear h6;go_enter func272,ntmps272;go_wp2_with fail;go_ret;exact⟨ag HF.out.symm,vQ _ _⟩
theorem RY(s:ByteArray)(hs:s.size<=140737488355328)(w:World) :
 Calls prog 242 #[.string s,.string ⟨#[42]⟩] w λe w'=>e = .returned (.bool (Np.eh s.data.toList))/\w=w':=by
 have h1:1<=s.size->((s.extract 0 1).toList == [42])=Np.eh s.data.toList:=Pz s;have h2:s.size<1->Np.eh s.data.toList=false:=λh=>by
  have:s.data.toList = []:=rQ (by rw[aZ];omega)
  rw[this];rfl
 have H1:=jq h1;have H2:=jq h2;clear h1 h2;go_enter func242,ntmps242;go_wp2
 ·go_ret;exact⟨ag (H1.out (by omega)),rfl⟩
 ·go_ret;exact⟨ag (H2.out (by omega)).symm,rfl⟩
def pr(l:List Np.Signed)(k:Nat):Option Np.DSet:=(l.take k).getLast?.map (·.set)
theorem Fs{l:List Np.Signed}{k:Nat}{x:Np.Signed}(h:l[k]?=some x):pr l (k+1)=some x.set:=by
 obtain⟨hl,rfl⟩:=cQ.1 h;unfold pr;rw[fQ hl,List.getLast?_append];rfl
theorem RW{apex:List UInt8}{l:List Np.Signed}{k:Nat}{x:Np.Signed}(h:l[k]?=some x)(p:Option Np.DSet) :
 Np.jm apex p (l.drop k)=((Np.aG x.set.name&&Np.bq x.set.name apex)&&Np.dj x.set&&(match p with | none=>true | some q=>decide (Np.gC q x.set<0))&&Np.jm apex (some x.set) (l.drop (k+1))):=by
 obtain⟨hl,rfl⟩:=cQ.1 h;rw[sQ hl]
 cases p <;> rfl
def UA(w1:World)(apex:List UInt8)(l:List Np.Signed)(i:Value)(wr:World):Prop:=
 ∃ k:Nat,k<=l.length/\i = .int .i64 k/\Below w1.heap.size w1 wr/\Hid (∀ j x,j<k->l[j]?=some x->Np.dj x.set=true)/\Hid (Np.jm apex none l=Np.jm apex (pr l k) (l.drop k))
theorem aMZ(a:ByteArray)(ha:a.size<=140737488355328)(v:Value)(l:List Np.Signed)(bM:l.length<=20000)(w:World)(hR:iP w w.heap.size)(hd:SlR bk 5 w w.heap.size v l) :
 Calls prog 198 #[.agg #[.string a,v]] w λe w'=>e = .returned (.bool (Np.eF ⟨a.data.toList,l⟩))/\Below w.heap.size w w':=by
 have HR:=jq hR;have HD:=jq hd;obtain⟨A,c,rfl,bD,bL,-⟩:=hd;clear hR;have HW:Hid (∀ o,Below w.heap.size w (w.alloc o)):=jq (λo=>(vQ _ w).alloc (bQ _) _);go_enter func198,ntmps198;go_wp2_with fail;refine (nameValid_any _ ha _).mono ?_;rintro e w1 ⟨rfl,hb⟩;have c0:w1.cell? ⟨w.heap.size,0,none⟩=some (.string a):=by rw[hb.cell (by simp)];go_simp
 have c1:w1.cell? ⟨w.heap.size,1,none⟩=some (.slice A l.length c):=by rw[hb.cell (by simp)];go_simp
 have dG:w.heap.size<w1.heap.size:=by have:=hb.size;simp at this;omega
 have ay:=jq ((HW.out _).trans (hb.mono (by simp)));clear hb
 cases qg:Np.aG a.data.toList with
 | false=>
  have HF:Hid (Np.eF ⟨a.data.toList,l⟩=false):=jq (by unfold Np.eF;rw[qg];rfl);clear qg;go_wp2_with fail;go_ret;exact⟨ag HF.out.symm,ay.out⟩
 | true=>
  have xS:=jq qg;clear qg
  cases mf:Np.eh a.data.toList with
  | true=>
   have HF:Hid (Np.eF ⟨a.data.toList,l⟩=false):=jq (by unfold Np.eF;rw[mf];simp);go_wp2_with (go_at_call 242;refine (RY a ha _).mono ?_;rintro e w' ⟨rfl,rfl⟩);go_ret;exact⟨ag HF.out.symm,ay.out⟩
  | false=>
   have HF:Hid (Np.eF ⟨a.data.toList,l⟩=Np.jm a.data.toList none l):=jq (by unfold Np.eF;rw[mf,xS.out];simp);go_wp2_with (go_at_call 242;refine (RY a ha _).mono ?_;rintro e w' ⟨rfl,rfl⟩);clear mf;go_loopw [30] (λi wr=>UA w1 a.data.toList l i wr) (λi _=>l.length - (intOf i).toNat)
   case atStart=>exact⟨0,jQ _,rfl,vQ _ _,jq (λj x hj=>by omega),jq rfl⟩
   case round=>
    obtain⟨k,hk,rfl,aL,HV,HG⟩:=hrel;by_cases aa:k<l.length
    ·have ls:Below w.heap.size w wr:=ay.out.trans (aL.mono (by omega));have ab:=aQ aa;obtain⟨b,o,c',sn,dv,sv,hA,bU,_,aF,ap,aV,aR,e0,e1,e2,e3,e4⟩:=eV (HD.out.keep ba ls) ab
     cases hA
     generalize hx:l[k]=x at *;clear hx;obtain⟨Ad,cd,rfl,ID,Ye⟩:=al aV;obtain⟨As,cs,rfl,hcs,hls⟩:=al aR;have d0:wr.cell? ⟨w.heap.size,0,none⟩=some (.string a):=by rw[aL.cell (by simpa using dG)];exact c0
     have d1:wr.cell? ⟨w.heap.size,1,none⟩=some (.slice (some ⟨b,o,none⟩) l.length c):=by rw[aL.cell (by simpa using dG)];exact c1
     have cK:w.heap.size<wr.heap.size:=by have:=aL.size;omega
     have kr:=jq aV;have HX:=jq ab;have aS:=jq aF;have aU:=jq aL;have xp:=jq ls;have ut:=jq (HG.out.trans (RW ab (pr l k)));clear aV aR ab aF aL ls c0 c1;go_wp2_with fail;have fW:Below wr.heap.size wr (wr.alloc (.cells #[.string sn,.int .i64 x.set.type,.int .i64 x.set.life,.slice Ad x.set.data.length cd,.slice As x.sigs.length cs] 42)):=(vQ _ _).alloc (bQ _) _;have p0:=World.cell?_alloc_new wr #[.string sn,.int .i64 x.set.type,.int .i64 x.set.life,.slice Ad x.set.data.length cd,.slice As x.sigs.length cs] 42 0;have p1:=World.cell?_alloc_new wr #[.string sn,.int .i64 x.set.type,.int .i64 x.set.life,.slice Ad x.set.data.length cd,.slice As x.sigs.length cs] 42 1;have fL:wr.heap.size<(wr.alloc (.cells #[.string sn,.int .i64 x.set.type,.int .i64 x.set.life,.slice Ad x.set.data.length cd,.slice As x.sigs.length cs] 42)).heap.size:=by simp
     generalize wr.alloc (.cells #[.string sn,.int .i64 x.set.type,.int .i64 x.set.life,.slice Ad x.set.data.length cd,.slice As x.sigs.length cs] 42)=wa at fW p0 p1 fL |-;have fB:=jq fW;have ui:=jq (xp.out.trans (fW.mono (by omega)));replace p0:wa.cell? ⟨wr.heap.size,0,none⟩=some (.string sn):=p0;replace p1:wa.cell? ⟨wr.heap.size,1,none⟩=some (.int .i64 x.set.type):=p1;replace d0:wa.cell? ⟨w.heap.size,0,none⟩=some (.string a):=by rw[fW.cell (by simpa using cK)];exact d0
     replace d1:wa.cell? ⟨w.heap.size,1,none⟩=some (.slice (some ⟨b,o,none⟩) l.length c):=by rw[fW.cell (by simpa using cK)];exact d1
     clear fW e0 e1 e2 e3 e4;refine (QH sn ap _ _ _ x.set.data _ ((HR.out.keep ui.out).more (by omega)) ((kr.out.keep cH (fB.out.mono (by omega))).more du (by omega))).mono ?_;have tO:(⟨sn.data.toList,x.set.type,x.set.life,x.set.data⟩:Np.DSet)=x.set:=by rw[aS.out]
     rw[tO];clear tO;rintro e w2 ⟨rfl,ac⟩;have aM:wr.heap.size<w2.heap.size:=by have:=ac.size;omega
     have a3Q:w.heap.size<w2.heap.size:=by omega
     replace d0:w2.cell? ⟨w.heap.size,0,none⟩=some (.string a):=by rw[ac.cell (by simp;omega)];exact d0
     replace d1:w2.cell? ⟨w.heap.size,1,none⟩=some (.slice (some ⟨b,o,none⟩) l.length c):=by rw[ac.cell (by simp;omega)];exact d1
     replace p0:w2.cell? ⟨wr.heap.size,0,none⟩=some (.string sn):=by rw[ac.cell (by simpa using fL)];exact p0
     replace p1:w2.cell? ⟨wr.heap.size,1,none⟩=some (.int .i64 x.set.type):=by rw[ac.cell (by simpa using fL)];exact p1
     have ak:=jq (ui.out.trans (ac.mono (by omega)));have Sc:=jq (fB.out.trans (ac.mono (by omega)));clear ac
     cases fk:Np.dj x.set with
     | false=>
      have jO:=jq fk;clear fk;go_wp2_with fail;go_ret;refine⟨ag ?_,ak.out⟩;rw[HF.out,ut.out,jO.out,Bool.and_false];rfl
     | true=>
      have jO:=jq fk;have kM:Np.aG sn.data.toList=true:=by rw[aS.out];exact Fl fk
      have gN:=jq kM;have Bb:∀ j y,j<k+1->l[j]?=some y->Np.dj y.set=true:=λj y hj hy=>by
       by_cases e:j=k
       ·subst e;rw[HX.out] at hy;cases hy;exact fk
       ·exact HV.out j y (by omega) hy
      have pw:=jq Bb;clear fk kM Bb;go_wp2_with fail;refine (J9 sn a ap ha _ gN.out xS.out).mono ?_;rintro e w3 ⟨rfl,am⟩;have dP:wr.heap.size<w3.heap.size:=by have:=am.size;omega
      have a3Z:w.heap.size<w3.heap.size:=by omega
      replace d1:w3.cell? ⟨w.heap.size,1,none⟩=some (.slice (some ⟨b,o,none⟩) l.length c):=by rw[am.cell (by simp;omega)];exact d1
      replace p0:w3.cell? ⟨wr.heap.size,0,none⟩=some (.string sn):=by rw[am.cell (by simpa using aM)];exact p0
      replace p1:w3.cell? ⟨wr.heap.size,1,none⟩=some (.int .i64 x.set.type):=by rw[am.cell (by simpa using aM)];exact p1
      have az:=jq (ak.out.trans (am.mono (by omega)));have Ky:=jq (Sc.out.trans (am.mono (by omega)));clear am d0
      cases dY:Np.bq sn.data.toList a.data.toList with
      | false=>
       have zV:=jq dY;clear dY;go_wp2_with fail;go_ret;refine⟨ag ?_,az.out⟩;rw[HF.out,ut.out,<-aS.out,gN.out,zV.out];rfl
      | true=>
       have cN:=jq (show Np.jm a.data.toList none l=((match pr l k with | none=>true | some q=>decide (Np.gC q x.set<0))&&Np.jm a.data.toList (pr l (k+1)) (l.drop (k+1))) by
        rw[ut.out,<-aS.out,gN.out,dY,jO.out,Fs HX.out];rfl)
       clear dY;by_cases bX:k=0
       ·subst bX;go_wp2_with fail;go_roundw
        case rel=>exact⟨1,by omega,by go_num,aU.out.trans (Ky.out.mono aU.out.size),pw,jq (by rw[cN.out];rfl)⟩
        case measure=>simp[intOf] <;> omega
       ·obtain⟨i,rfl⟩:∃ i,k=i+1:=⟨k - 1,by omega⟩;have ry:=aQ (show i<l.length by omega);obtain⟨b',o',c'',sq,dq,sg,oP,Bf,_,kh,OW,Bq,_,f0,f1,f2,f3,_⟩:=eV ((HD.out.keep ba az.out)) ry
        cases oP
        have Cd:=Fl (HV.out i l[i] (by omega) ry);generalize hy:l[i]=y at *;clear hy;obtain⟨Aq,cq,rfl,Xv,Ou⟩:=al Bq;have yy:((((i+1:Nat):Int)) == 0)=false:=by simp;omega
        have Ug:Hid (Np.aG sq.data.toList=true):=jq (by rw[kh];exact Cd);have SH:Hid (Np.eO (sq.data.toList,y.set.type) (sn.data.toList,x.set.type)=Np.gC y.set x.set):=jq (by rw[kh,aS.out,Np.Ho];rfl);have nB:=jq (Fs ry);clear Bq kh ry Cd;have aSK:b<w3.heap.size:=by omega
        have aj:IntKind.i64.wrap (((i+1:Nat):Int) - 1)=(i:Int):=by rw[IntWalk.i64_in _ (by omega)];omega
        have nT:(0:Int)<=(i:Int):=by omega
        have rB:(i:Int)<(l.length:Int):=by omega
        have sD:Hid (∀ o,Below w3.heap.size w3 (w3.alloc o)):=jq (λo=>(vQ _ _).alloc (bQ _) _);go_wp2_with fail;refine (RX sq sn OW ap _ _ Ug.out gN.out _).mono ?_;rw[SH.out];rintro e w4 ⟨rfl,ar⟩;have br:=jq ((sD.out _).trans (ar.mono (by simp)));clear ar;by_cases fE:Np.gC y.set x.set<0
        ·have kq:=jq (uQ fE);have IF:¬ (0<=Np.gC y.set x.set):=by omega
         clear fE;go_wp2_with fail;go_roundw
         case rel=>
          refine⟨i+1+1,by omega,by go_num,aU.out.trans ((Ky.out.trans (br.out.mono (by omega))).mono aU.out.size),pw,jq ?_⟩;rw[cN.out,nB.out];simp only[kq.out,Bool.true_and]
         case measure=>simp[intOf] <;> omega
        ·have kq:=jq (tQ fE);have IF:0<=Np.gC y.set x.set:=by omega
         clear fE;go_wp2_with fail;go_ret;refine⟨ag ?_,az.out.trans (br.out.mono (by omega))⟩;rw[HF.out,cN.out,nB.out];simp only[kq.out,Bool.false_and]
    ·go_wp2_with fail;go_ret;refine⟨ag ?_,ay.out.trans (aL.mono (by omega))⟩;rw[HF.out,HG.out,List.drop_eq_nil_of_le (by omega)];rfl
theorem V6(s1 s2:ByteArray)(h1:s1.size<=140737488355328)(h2:s2.size<=140737488355328)(t1 l1 t2:Int)(A1 A2:Option Addr)(m1 c1 m2 c2:Nat)(n1:Np.aG s1.data.toList=true)(n2:Np.aG s2.data.toList=true)(w:World) :
 Calls prog 328 #[.agg #[.string s1,.int .i64 t1,.int .i64 l1,.slice A1 m1 c1,.slice A2 m2 c2],.agg #[.string s2,.int .i64 t2]] w
  λe w'=>e = .returned (.int .i64 (Np.eO (s1.data.toList,t1) (s2.data.toList,t2)))/\Below w.heap.size w w':=by
 have HW:Hid (∀ o o',Below w.heap.size w ((w.alloc o).alloc o')):=jq (λo o'=>((vQ _ w).alloc (bQ _) _).alloc (by simp) _);have N1:=jq n1;have N2:=jq n2;clear n1 n2;go_enter func328,ntmps328;go_wp2_with fail;refine (RX s1 s2 h1 h2 _ _ N1.out N2.out _).mono ?_;rintro e w1 ⟨rfl,hb⟩;have HB:=jq ((HW.out _ _).trans (hb.mono (by simp;omega)));clear hb;go_wp2_with fail;go_ret;exact⟨rfl,HB.out⟩
def Np.Cs(l:List Np.Signed)(key:List UInt8×Int):Nat:=l.countP λx=>decide (Np.eO (Np.ei x.set) key<0)
def Np.uW(l:List Np.Signed):Prop:=l.Pairwise λa b=>Np.eO (Np.ei a.set) (Np.ei b.set)<0
theorem ahY{l:List Np.Signed}{key:List UInt8×Int}{i:Nat}(hi:i<=l.length)(h1:∀ j x,j<i->l[j]?=some x->Np.eO (Np.ei x.set) key<0)(h2:∀ j x,i<=j->l[j]?=some x->¬ Np.eO (Np.ei x.set) key<0):Np.Cs l key=i:=by
 unfold Np.Cs;have e:=List.take_append_drop i l;rw[<-e,List.countP_append,List.countP_eq_length.2,List.countP_eq_zero.2]
 ·rw[List.length_take];omega
 ·intro x hx;obtain⟨j,hj,rfl⟩:=nQ.1 hx;rw[List.getElem_drop];simpa using h2 (i+j) _ (by omega) (aQ _)
 ·intro x hx;obtain⟨j,hj,rfl⟩:=nQ.1 hx;rw[List.getElem_take];rw[List.length_take] at hj;simpa using h1 j _ (by omega) (aQ _)
theorem Wj{l:List Np.Signed}(hs:Np.uW l){key:List UInt8×Int}{i:Nat}(h1:∀ j x,j<i->l[j]?=some x->Np.eO (Np.ei x.set) key<0)(h2:∀ j x,i<=j->l[j]?=some x->¬ Np.eO (Np.ei x.set) key<0):(∃ x∈l,Np.ei x.set=key)↔∃ x,l[i]?=some x/\Np.eO (Np.ei x.set) key=0:=by
 constructor
 ·rintro⟨x,hx,rfl⟩;obtain⟨j,hj,rfl⟩:=nQ.1 hx;have YO:=Np.ze.self (Np.ei l[j].set);rcases Nat.lt_trichotomy j i with h | h | h
  ·have:=h1 j _ h (aQ hj)
   omega
  ·subst h;exact⟨_,aQ hj,YO⟩
  ·exact absurd (List.pairwise_iff_getElem.1 hs i j (by omega) hj h) (h2 i _ (bQ _) (aQ (by omega)))
 ·rintro⟨x,hx,h⟩;exact⟨x,gQ hx,Np.ze.zero _ _ h⟩
theorem JX{l:List Np.Signed}(hs:Np.uW l){i j:Nat}{x y:Np.Signed}(hx:l[i]?=some x)(hy:l[j]?=some y)(h:i<j):Np.eO (Np.ei x.set) (Np.ei y.set)<0:=by
 obtain⟨hi,rfl⟩:=cQ.1 hx;obtain⟨hj,rfl⟩:=cQ.1 hy;exact List.pairwise_iff_getElem.1 hs i j hi hj h
theorem aAQ{z:Np.Zone}(h:Np.InOrder z):Np.uW z.sets:=by
 have:=h.order
 rw[List.pairwise_map] at this;exact this.imp λh=>by rw[<-Np.Ho];exact h
def Np.jo(l:List Np.Signed)(n:List UInt8)(t:Int):Prop:=∃ x∈l,x.set.name=n/\x.set.type=t
theorem WV{l:List Np.Signed}{n:List UInt8}{t:Int} : Np.jo l n t↔∃ x∈l,Np.ei x.set=(n,t):=by
 unfold Np.jo Np.ei;simp only[Prod.mk.injEq]
theorem U4(v:Value)(l:List Np.Signed)(bM:l.length<=20000)(hv:∀ x∈l,Np.aG x.set.name=true)(hs:Np.uW l)(q:ByteArray)(hq:q.size<=140737488355328)(qt:Int)(nq:Np.aG q.data.toList=true)(w:World)(hd:SlR bk 5 w w.heap.size v l) :
 Calls prog 327 #[v,.agg #[.string q,.int .i64 qt],.func (.func 328) #[] #[]] w
  λe w'=>e = .returned (.tuple #[.int .i64 (Np.Cs l (q.data.toList,qt)),.bool (Np.yes (Np.jo l q.data.toList qt))])/\Below w.heap.size w w':=by
 obtain⟨pl,iD⟩:∃ pl,Np.Cs l (q.data.toList,qt)=pl:=⟨_,rfl⟩;obtain⟨r,hr⟩:∃ r,Np.yes (Np.jo l q.data.toList qt)=r:=⟨_,rfl⟩;rw[iD,hr];have oI:=jq iD;have HR:=jq hr;have HV:=jq hv;have HS:=jq hs;have HD:=jq hd;have NQ:=jq nq;have eg:∀ args w,(callFunc 328 args).run prog w = .ok (.enter 328 args) w:=enters_of func328 (by kernel_rfl) rfl;obtain⟨A,c,rfl,bD,bL⟩:=al hd;clear iD hr hv hs hd nq;have HW:Hid (∀ o,Below w.heap.size w (w.alloc o)):=jq (λo=>(vQ _ w).alloc (bQ _) _);go_enter func327,ntmps327;go_wp2_with fail;have c0:=World.cell?_alloc_new w #[.string q,.int .i64 qt] 31 0;have c1:=World.cell?_alloc_new w #[.string q,.int .i64 qt] 31 1;have dG:w.heap.size<(w.alloc (.cells #[.string q,.int .i64 qt] 31)).heap.size:=by simp
 have ay:=jq (HW.out (.cells #[.string q,.int .i64 qt] 31));generalize w.alloc (.cells #[.string q,.int .i64 qt] 31)=w1 at c0 c1 dG ay |-;replace c0:w1.cell? ⟨w.heap.size,0,none⟩=some (.string q):=c0;replace c1:w1.cell? ⟨w.heap.size,1,none⟩=some (.int .i64 qt):=c1;go_loopg [9,10] l.length (λg s7 s8 wr=>∃ lo hi:Nat,s7 = .int .i64 lo/\s8 = .int .i64 hi/\lo<=hi/\hi<=l.length/\hi - lo<=g/\Hid (Below w1.heap.size w1 wr)/\Hid ((∀ j x,j<lo->l[j]?=some x->Np.eO (Np.ei x.set) (q.data.toList,qt)<0)/\(∀ j x,hi<=j->l[j]?=some x->¬ Np.eO (Np.ei x.set) (q.data.toList,qt)<0)))
 case atStart=>exact⟨0,l.length,rfl,rfl,jQ _,bQ _,by omega,jq (vQ _ _),jq ⟨λj x hj=>by omega,λj x hj hx=>by have:=(cQ.1 hx).1;omega⟩⟩
 case round=>
  obtain⟨lo,hi,rfl,rfl,hlh,hin,hg,HB,HI⟩:=hrel;have Y8:=HB.out.size;have d0:wr.cell? ⟨w.heap.size,0,none⟩=some (.string q):=by rw[HB.out.cell (by simpa using dG)];exact c0
  have d1:wr.cell? ⟨w.heap.size,1,none⟩=some (.int .i64 qt):=by rw[HB.out.cell (by simpa using dG)];exact c1
  have cK:w.heap.size<wr.heap.size:=by omega
  have aB:=jq (ay.out.trans (HB.out.mono (by omega)));have tt:∀ (g:bK wr) (p:Addr),p.block<wr.heap.size->g.w.cell? p=wr.cell? p:=λg p h=>g.cell p h;have da:=HD.out.keep ba aB.out;have nv:Hid (∀ (k:Nat) (x:Np.Signed),l[k]?=some x->∃ (b o c':Nat) (s:ByteArray) (Ad:Option Addr) (md cd:Nat) (As:Option Addr) (ms cs:Nat),A=some ⟨b,o,none⟩/\b<wr.heap.size/\wr.cell? ⟨b,o+k * 5,none⟩=some (.string s)/\wr.cell? ⟨b,o+k * 5+1,none⟩=some (.int .i64 x.set.type)/\wr.cell? ⟨b,o+k * 5+2,none⟩=some (.int .i64 x.set.life)/\wr.cell? ⟨b,o+k * 5+3,none⟩=some (.slice Ad md cd)/\wr.cell? ⟨b,o+k * 5+4,none⟩=some (.slice As ms cs)/\
   ∀ g:bK wr,Calls prog 328 #[.agg #[.string s,.int .i64 x.set.type,.int .i64 x.set.life,.slice Ad md cd,.slice As ms cs],.agg #[.string q,.int .i64 qt]] g.w λe w'=>e = .returned (.int .i64 (Np.eO (Np.ei x.set) (q.data.toList,qt)))/\Below g.w.heap.size g.w w'):=jq (λk x hx=>by
   obtain⟨b,o,c',s,dv,sv,hA,bU,_,aF,ap,aV,aR,e0,e1,e2,e3,e4⟩:=eV da hx
   cases hA
   obtain⟨Ad,cd,rfl,_,_⟩:=al aV;obtain⟨As,cs,rfl,_,_⟩:=al aR;refine⟨b,o,c,s,Ad,_,cd,As,_,cs,rfl,by omega,e0,e1,e2,e3,e4,λg=>?_⟩
   have:=V6 s q ap hq x.set.type x.set.life qt Ad As x.set.data.length cd x.sigs.length cs (by rw[aF];exact HV.out x (gQ hx)) NQ.out g.w
   rw[aF] at this;exact this)
  clear da c0 c1;by_cases aa:lo<hi
  ·obtain⟨k,hk⟩:∃ k,(lo+hi) / 2=k:=⟨_,rfl⟩;have l7:k<l.length:=by omega
   have ab:=aQ l7;obtain⟨b,o,c',s,Ad,md,cd,As,ms,cs,rfl,aL,e0,e1,e2,e3,e4,cL⟩:=nv.out k _ ab;generalize hx:l[k]=x at *;have HX:=jq ab;have lK:=jq cL;have hkI:((lo:Int)+(hi:Int)) / 2=(k:Int):=by omega
   have HK:=jq hk;have bX:(0:Int)<=(k:Int):=by omega
   have bW:(k:Int)<(l.length:Int):=by omega
   clear ab cL hx hk;by_cases hc:Np.eO (Np.ei x.set) (q.data.toList,qt)<0
   ·have HN:Hid (∀ j y,j<k+1->l[j]?=some y->Np.eO (Np.ei y.set) (q.data.toList,qt)<0):=jq (λj y hj hy=>by
     by_cases e:j=k
     ·subst e;rw[HX.out] at hy;cases hy;exact hc
     ·exact Np.ze.trans _ _ _ (JX HS.out hy HX.out (by omega)) hc)
    have ew:decide (Np.eO (Np.ei x.set) (q.data.toList,qt)<0)=true:=by simpa using hc
    clear hc;go_wp2_with fail;refine f9 (by kernel_rfl) (by kernel_rfl) ?_
    repeat (go_big_quiet_step ((go_at_call 328;exact Calls.grow_of (lK.out _))))
    refine wpQuiet_nil ?_;rintro _ ⟨g,rfl⟩;go_wp2_with fail;go_roundg (hi - (k+1))
    case measure=>have:=HK.out;omega
    case rel=>exact⟨k+1,hi,by go_num,rfl,by have:=HK.out;omega,hin,bQ _,jq (HB.out.trans (g.below.mono (by omega))),jq ⟨HN.out,HI.out.2⟩⟩
   ·have HN:Hid (∀ j y,k<=j->l[j]?=some y->¬ Np.eO (Np.ei y.set) (q.data.toList,qt)<0):=jq (λj y hj hy aa=>by
     by_cases e:j=k
     ·subst e;rw[HX.out] at hy;cases hy;exact hc aa
     ·exact hc (Np.ze.trans _ _ _ (JX HS.out HX.out hy (by omega)) aa))
    have ew:decide (Np.eO (Np.ei x.set) (q.data.toList,qt)<0)=false:=by simpa using hc
    clear hc;go_wp2_with fail;refine f9 (by kernel_rfl) (by kernel_rfl) ?_
    repeat (go_big_quiet_step ((go_at_call 328;exact Calls.grow_of (lK.out _))))
    refine wpQuiet_nil ?_;rintro _ ⟨g,rfl⟩;go_wp2_with fail;go_roundg (k - lo)
    case measure=>have:=HK.out;omega
    case rel=>exact⟨lo,k,rfl,by go_num,by have:=HK.out;omega,by omega,bQ _,jq (HB.out.trans (g.below.mono (by omega))),jq ⟨HI.out.1,HN.out⟩⟩
  ·obtain rfl:hi=lo:=by omega
   have HE:Hid (pl=hi):=jq (by rw[<-oI.out];exact ahY hin HI.out.1 HI.out.2);have HF:Hid (r=Np.yes (∃ x,l[hi]?=some x/\Np.eO (Np.ei x.set) (q.data.toList,qt)=0)):=jq (by rw[<-HR.out];exact Np.sB (WV.trans (Wj HS.out HI.out.1 HI.out.2)));by_cases hn:hi<l.length
   ·have ab:=aQ hn;obtain⟨b,o,c',s,Ad,md,cd,As,ms,cs,rfl,aL,e0,e1,e2,e3,e4,cL⟩:=nv.out hi _ ab;generalize hx:l[hi]=x at *;have HX:=jq ab;have lK:=jq cL;have bX:(0:Int)<=(hi:Int):=by omega
    have bW:(hi:Int)<(l.length:Int):=by omega
    clear ab cL hx;by_cases hc:Np.eO (Np.ei x.set) (q.data.toList,qt)=0
    ·have HT:Hid (r=true):=jq (by rw[HF.out];exact Np.bO ⟨x,HX.out,hc⟩);have ew:(Np.eO (Np.ei x.set) (q.data.toList,qt) == 0)=true:=by simpa using hc
     clear hc;go_wp2_with fail;refine f9 (by kernel_rfl) (by kernel_rfl) ?_
     repeat (go_big_quiet_step ((go_at_call 328;exact Calls.grow_of (lK.out _))))
     refine wpQuiet_nil ?_;rintro _ ⟨g,rfl⟩;go_wp2_with fail;go_ret2;exact⟨by rw[HE.out,HT.out];rfl,aB.out.trans (g.below.mono (by omega))⟩
    ·have HT:Hid (r=false):=jq (by rw[HF.out];exact Np.aN λ⟨y,hy,h0⟩=>by rw[HX.out] at hy;cases hy;exact hc h0);have ew:(Np.eO (Np.ei x.set) (q.data.toList,qt) == 0)=false:=by simpa using hc
     clear hc;go_wp2_with fail;refine f9 (by kernel_rfl) (by kernel_rfl) ?_
     repeat (go_big_quiet_step ((go_at_call 328;exact Calls.grow_of (lK.out _))))
     refine wpQuiet_nil ?_;rintro _ ⟨g,rfl⟩;go_wp2_with fail;go_ret2;exact⟨by rw[HE.out,HT.out];rfl,aB.out.trans (g.below.mono (by omega))⟩
   ·have HT:Hid (r=false):=jq (by rw[HF.out];exact Np.aN λ⟨y,hy,h0⟩=>by have:=(cQ.1 hy).1;omega);have bJ:decide ((hi:Int)<(l.length:Int))=false:=by simp;omega
    have di:decide (hi<l.length)=false:=by simp;omega
    go_wp2_with fail;refine f9 (by kernel_rfl) (by kernel_rfl) ?_
    repeat (go_big_quiet_step (fail))
    refine wpQuiet_nil ?_;rintro _ ⟨g,rfl⟩;go_wp2_with fail;go_ret2;exact⟨by rw[HE.out,HT.out];rfl,aB.out.trans (g.below.mono (by omega))⟩
theorem M7(a:ByteArray)(v:Value)(l:List Np.Signed)(bM:l.length<=20000)(hv:∀ x∈l,Np.aG x.set.name=true)(hs:Np.uW l)(q:ByteArray)(hq:q.size<=140737488355328)(qt:Int)(nq:Np.aG q.data.toList=true)(w:World)(hd:SlR bk 5 w w.heap.size v l) :
 Calls prog 262 #[.agg #[.string a,v],.agg #[.string q,.int .i64 qt]] w
  λe w'=>e = .returned (.tuple #[.int .i64 (Np.Cs l (q.data.toList,qt)),.bool (Np.yes (Np.jo l q.data.toList qt))])/\Below w.heap.size w w':=by
 have HV:=jq hv;have HS:=jq hs;have HD:=jq hd;have NQ:=jq nq;obtain⟨A,c,rfl,bD,bL⟩:=al hd;have HW:Hid (∀ o o',Below w.heap.size w ((w.alloc o).alloc o')):=jq (λo o'=>((vQ _ w).alloc (bQ _) _).alloc (by simp) _);clear hv hs hd nq;go_enter func262,ntmps262;go_wp2_with fail;refine (U4 _ l bM HV.out HS.out q hq qt NQ.out _ (HD.out.later ba bY (HW.out _ _))).mono ?_;rintro e w1 ⟨rfl,hb⟩;have HB:=jq ((HW.out _ _).trans (hb.mono (by simp;omega)));clear hb;go_wp2_with fail;go_ret2;exact⟨rfl,HB.out⟩
end
end Go.Proofs.YtfnopgdcaanaiaaGreatDoor
