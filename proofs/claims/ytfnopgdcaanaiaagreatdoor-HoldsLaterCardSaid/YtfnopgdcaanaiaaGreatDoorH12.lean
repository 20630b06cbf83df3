/- Parts of the proof. No condition. -/
import Derived.Deep.DeepCutAuto
import Derived.Test.YtfnopgdcaanaiaaGreatDoorH07
import Derived.Test.YtfnopgdcaanaiaaGreatDoorH08
import Derived.Test.YtfnopgdcaanaiaaGreatDoorH09
set_option linter.all false
set_option maxRecDepth 100000
set_option maxHeartbeats 8000000
namespace Go.Proofs.YtfnopgdcaanaiaaGreatDoor
open Go.Proofs.Tryz
section
open Go.RowKit
theorem Nr(k:Nat)(h1:1<=k)(h8:k<=8):(Np.bH k).single=(decide ((k:Int)=3)||decide ((k:Int)=4)):=by
 have hk:k=1\/k=2\/k=3\/k=4\/k=5\/k=6\/k=7\/k=8:=by omega
 rcases hk with rfl | rfl | rfl | rfl | rfl | rfl | rfl | rfl <;> rfl
theorem Ns(k:Nat)(h1:1<=k)(h8:k<=8):(Np.bH k).wild=(decide ((k:Int)=1)||decide ((k:Int)=5)||decide ((k:Int)=8)):=by
 have hk:k=1\/k=2\/k=3\/k=4\/k=5\/k=6\/k=7\/k=8:=by omega
 rcases hk with rfl | rfl | rfl | rfl | rfl | rfl | rfl | rfl <;> rfl
theorem Cm(k:Nat)(h1:1<=k)(h8:k<=8)(s:ByteArray)(hs:s.size<=140737488355328)(n m:Int)(w:World)(t:Bool)(ht:Np.je (Np.bH k) ⟨s.data.toList,n,m⟩=t) :
 Calls prog 226 #[.int .i64 k,.agg #[.string s,.int .i64 n,.int .i64 m]] w λe w'=>e = .returned (.bool t)/\Below w.heap.size w w':=by
 subst ht;exact XZ k h1 h8 s hs n m w
theorem Na(s t:ByteArray)(n1 m1 n2 m2:Int)(w:World)(r:Bool)(hr:decide (Np.og ⟨s.data.toList,n1,m1⟩ ⟨t.data.toList,n2,m2⟩<0)=r) :
 Calls prog 227 #[.agg #[.string s,.int .i64 n1,.int .i64 m1],.agg #[.string t,.int .i64 n2,.int .i64 m2]] w λe w'=>e = .returned (.bool r)/\Below w.heap.size w w':=by
 subst hr;exact Ya s t n1 m1 n2 m2 w
def QQ(w1:World)(r:Np.Rule)(ds:List Np.Datum)(i:Value)(wr:World):Prop:=
 ∃ j:Nat,j<=ds.length/\i = .int .i64 j/\Below w1.heap.size w1 wr/\Np.ij r none ds=Np.ij r (ds.take j).getLast? (ds.drop j)
def tP(s:List UInt8)(ty life:Int)(n:Nat):Bool:=Np.aC s&&(decide (1<=ty)&&decide (ty<=8))&&(decide (0<=life)&&decide (life<=100000))&&(decide ((1:Int)<=n)&&decide ((n:Int)<=8))&&!((decide (ty=3)||decide (ty=4))&&decide ((1:Int)<n))
def Jd(w:World)(s:ByteArray)(ty life:Int)(sl:Value)(wx:World):Prop:=
 Below w.heap.size w wx/\w.heap.size<wx.heap.size/\wx.cell? ⟨w.heap.size,0,none⟩=some (.string s)/\wx.cell? ⟨w.heap.size,1,none⟩=some (.int .i64 ty)/\wx.cell? ⟨w.heap.size,2,none⟩=some (.int .i64 life)/\wx.cell? ⟨w.heap.size,3,none⟩=some sl
theorem Nd(s:ByteArray)(hs:s.size<=140737488355328)(ty life:Int)(v:Value)(ds:List Np.Datum)(w:World)(hd:SlR bn 3 w w.heap.size v ds) :
 Calls prog 150 #[.agg #[.string s,.int .i64 ty,.int .i64 life,v]] w
  λe w'=>e = .returned (.bool (Np.cW ⟨s.data.toList,ty,life,ds⟩))/\Below w.heap.size w w':=by
 have HD:=jq hd;obtain⟨A,c,rfl,bw,bT,jy⟩:=hd;clear jy;have fN:¬ (Np.aC s.data.toList=true/\(1<=ty/\ty<=8)/\(0<=life/\life<=100000)/\(1<=ds.length/\ds.length<=8)/\((ty=3\/ty=4)->ds.length<=1)/\(Np.dL s.data.toList=true->ty=1\/ty=5\/ty=8))->Np.cW ⟨s.data.toList,ty,life,ds⟩=false:=λhin=>by
  cases hq:Np.cW ⟨s.data.toList,ty,life,ds⟩ with
  | false=>rfl
  | true=>
   exfalso;unfold Np.cW at hq;simp only[Bool.and_eq_true,Qa,Bool.not_eq_true'] at hq;obtain⟨⟨⟨⟨⟨⟨h1,h2⟩,h3⟩,h4⟩,h5⟩,h6⟩,_⟩:=hq;obtain⟨k,rfl⟩:=Int.eq_ofNat_of_zero_le (by omega:0<=ty);rw[Nr k (by omega) (by omega)] at h5;rw[Ns k (by omega) (by omega)] at h6;refine hin ⟨h1,h2,h3,h4,λht=>?_,λhw=>?_⟩
   ·simp at h5;omega
   ·rw[hw] at h6;simp at h6;omega
 have jk:=jq fN;clear fN;go_enter func150,ntmps150;go_upto_region 2 with fail
 go_cut [37] (λt wx=>Jd w s ty life (.slice A ds.length c) wx/\t = .bool (!tP s.data.toList ty life ds.length))
 case first=>
  go_wp2_with fail;refine (tR _ hs _).mono ?_;rintro e w1 ⟨rfl,hb⟩;have cn:Below w.heap.size w w1:=((vQ _ w).alloc (bQ _) _).trans (hb.mono (by simp));have du:w.heap.size<w1.heap.size:=by have:=hb.size;simp at this;omega
  have c0:w1.cell? ⟨w.heap.size,0,none⟩=some (.string s):=by rw[hb.cell (by simp)];go_simp
  have c1:w1.cell? ⟨w.heap.size,1,none⟩=some (.int .i64 ty):=by rw[hb.cell (by simp)];go_simp
  have c2:w1.cell? ⟨w.heap.size,2,none⟩=some (.int .i64 life):=by rw[hb.cell (by simp)];go_simp
  have c3:w1.cell? ⟨w.heap.size,3,none⟩=some (.slice A ds.length c):=by rw[hb.cell (by simp)];go_simp
  have HH:=jq (show Jd w s ty life (.slice A ds.length c) w1 from ⟨cn,du,c0,c1,c2,c3⟩);clear hb cn;go_wp2_with (first
   | (go_at_call 223;refine (Nh _ _ _ _).mono ?_;rintro e w' ⟨rfl,rfl⟩)
   | (go_at_call 224;refine (Yh _ _).mono ?_;rintro e w' ⟨rfl,rfl⟩))
  all_goals
   go_meet
   case rel=>
    refine⟨HH.out,?_⟩;clear HH jk HD;go_light
    first
     | (simp_all [tP];done)
     | (simp_all [tP];omega)
     | (congr 1;rw[Bool.eq_iff_iff];simp_all [tP] <;> omega)
 case rest=>
  obtain⟨⟨cn,K1,c0,c1,c2,c3⟩,rfl⟩:=hcut;have aw:=jq cn;clear cn
  cases hq:tP s.data.toList ty life ds.length with
  | false=>
   have HQ:=jq hq;clear hq;go_wp2_with fail;go_ret;refine⟨ae (jk.out λ⟨a1,a2,a3,a4,a5,_⟩=>?_).symm,aw.out⟩
   have:=HQ.out
   simp[tP,a1,a2,a3] at this;omega
  | true=>
   have HQ:=jq hq;clear hq;go_upto_region 4 with fail
   go_cut [55] (λt wy=>wy=wc/\t = .bool (Np.dL s.data.toList&&(decide (ty≠1)&&(decide (ty≠5)&&decide (ty≠8)))))
   case first=>
    go_wp2_with (go_at_call 225;refine (Cp _ hs _).mono ?_;rintro e w' ⟨rfl,rfl⟩)
    all_goals
     go_meet
     case rel=>
      refine⟨rfl,?_⟩;clear jk HD HQ;go_light
      first
       | (simp_all;done)
       | (simp_all;omega)
       | (congr 1;rw[Bool.eq_iff_iff];simp_all;done)
       | (congr 1;rw[Bool.eq_iff_iff];simp_all;omega)
   case rest=>
    obtain⟨rfl,rfl⟩:=hcut
    cases fO:(Np.dL s.data.toList&&(decide (ty≠1)&&(decide (ty≠5)&&decide (ty≠8)))) with
    | true=>
     have sC:=jq fO;clear fO;go_wp2_with fail;go_ret;refine⟨ae (jk.out λ⟨_,_,_,_,_,a6⟩=>?_).symm,aw.out⟩
     have:=sC.out
     simp at this
     have:=a6 this.1
     omega
    | false=>
     have hin:Np.aC s.data.toList=true/\(1<=ty/\ty<=8)/\(0<=life/\life<=100000)/\(1<=ds.length/\ds.length<=8)/\((ty=3\/ty=4)->ds.length<=1)/\(Np.dL s.data.toList=true->ty=1\/ty=5\/ty=8):=by
      have h:=HQ.out;simp[tP] at h;obtain⟨⟨⟨⟨h1,h2⟩,h3⟩,h4⟩,h5⟩:=h;refine⟨h1,h2,h3,by omega,by omega,λhw=>?_⟩;rw[hw] at fO;simp at fO;omega
     obtain⟨i1,⟨i2,i3⟩,⟨i4,i5⟩,⟨i6,i7⟩,i8,i9⟩:=hin;obtain⟨k,rfl⟩:=Int.eq_ofNat_of_zero_le (by omega:0<=ty);have hv:Np.cW ⟨s.data.toList,k,life,ds⟩=Np.ij (Np.bH k) none ds:=by
      unfold Np.cW;simp only[Nr k (by omega) (by omega),Ns k (by omega) (by omega),i1,uQ i2,uQ i3,uQ i4,uQ i5,uQ i6,uQ i7,Bool.true_and];have e1:((decide ((k:Int)=3)||decide ((k:Int)=4))&&decide (ds.length≠1))=false:=by
       rw[Bool.eq_false_iff];simp;omega
      have e2:(Np.dL s.data.toList&&!(decide ((k:Int)=1)||decide ((k:Int)=5)||decide ((k:Int)=8)))=false:=by
       cases hw:Np.dL s.data.toList with
       | false=>rfl
       | true=>have:=i9 hw;simp;omega
      rw[e1,e2];rfl
     have HV:=jq hv;have Bt:1<=k:=by omega
     have Bu:k<=8:=by omega
     clear hv i8 i9 fO i1 c0 c2 jk HQ;go_wp2_with fail;go_loopw [4] (λi wr=>QQ wc (Np.bH k) ds i wr) (λi _=>ds.length - (intOf i).toNat)
     case atStart=>exact⟨0,jQ _,rfl,vQ _ _,rfl⟩
     case round=>
      obtain⟨j,hj,rfl,aG,hg⟩:=hrel;have HG:=jq hg;clear hg;by_cases aa:j<ds.length
      ·have F3:=aG.size;have kA:Below w.heap.size w wr:=aw.out.trans (aG.mono (by omega));have Vh:w.heap.size<wr.heap.size:=by omega
       have d1:wr.cell? ⟨w.heap.size,1,none⟩=some (.int .i64 k):=by rw[aG.cell (by simpa using K1)];exact c1
       have d3:wr.cell? ⟨w.heap.size,3,none⟩=some (.slice A ds.length c):=by rw[aG.cell (by simpa using K1)];exact c3
       obtain⟨A',c',hA',_,_,bK⟩:=HD.out.keep de kA
       cases hA'
       obtain⟨b,o,e,rfl,bJ,_,hce,sd,rv,rx,rfl⟩:=bK j _ (aQ aa);have e0:wr.cell? ⟨b,o+j * 3,none⟩=some (.string sd):=hce 0 _ rfl;have e1:wr.cell? ⟨b,o+j * 3+1,none⟩=some (.int .i64 ds[j].n):=hce 1 _ rfl;have e2:wr.cell? ⟨b,o+j * 3+2,none⟩=some (.int .i64 ds[j].m):=hce 2 _ rfl;have cZ:b<wr.heap.size:=by omega
       have k9:∀ (g:bq wr) (p:Addr),p.block<wr.heap.size->g.w.cell? p=wr.cell? p:=λg p h=>g.cell p h;have aP:=jq aG;have ub:=jq kA;have Dg:=jq bK;have uo:=jq rv;have ym:(⟨sd.data.toList,ds[j].n,ds[j].m⟩:Np.Datum)=ds[j]:=by rw[uo.out]
       have oX:=jq ym;clear hce aG kA bK rv c1 c3 ym F3;by_cases pY:Np.je (Np.bH k) ⟨sd.data.toList,ds[j].n,ds[j].m⟩=true
       ·have jR:=jq pY;clear pY;by_cases iP:j=0
        ·subst iP;simp only[Nat.zero_mul,Nat.add_zero] at e0 e1 e2;go_wp2_with fail;refine fG (by kernel_rfl) (by kernel_rfl) ?_
         repeat (go_big_quiet_step ((go_at_call 226;exact Calls.grow_of (Cm _ Bt Bu _ rx _ _ _ true jR.out))))
         refine wpQuiet_nil ?_;rintro _ ⟨g,rfl⟩;go_wp2_with fail;go_roundw
         case rel=>
          go_light;have h1:=Np.J4 (r:=Np.bH k) (aQ aa) (by rw[<-oX.out];exact jR.out);exact⟨1,aa,by go_num,aP.out.trans (g.below.mono aP.out.size),by rw[<-h1];exact HG.out⟩
         case measure=>simp[intOf] <;> omega
        ·obtain⟨i,rfl⟩:∃ i,j=i+1:=⟨j - 1,by omega⟩;obtain⟨b',o',e',nk,yf,_,pB,sq,jE,U5,rfl⟩:=Dg.out i _ (aQ (by omega))
         cases nk
         have f0:wr.cell? ⟨b,o+i * 3,none⟩=some (.string sq):=pB 0 _ rfl;have f1:wr.cell? ⟨b,o+i * 3+1,none⟩=some (.int .i64 (ds[i]'(by omega)).n):=pB 1 _ rfl;have f2:wr.cell? ⟨b,o+i * 3+2,none⟩=some (.int .i64 (ds[i]'(by omega)).m):=pB 2 _ rfl;have yl:(⟨sq.data.toList,(ds[i]'(by omega)).n,(ds[i]'(by omega)).m⟩:Np.Datum)=ds[i]'(by omega):=by rw[jE]
         have Db:=jq yl;clear pB jE yl;have my:(0:Int)<((i+1:Nat):Int):=by omega
         have h1:=Np.J5 (r:=Np.bH k) (aQ (by omega:i<ds.length)) (aQ aa) (by rw[<-oX.out];exact jR.out);rw[<-oX.out,<-Db.out] at h1;have H1:=jq h1;clear h1;by_cases fi:Np.og ⟨sq.data.toList,(ds[i]'(by omega)).n,(ds[i]'(by omega)).m⟩ ⟨sd.data.toList,ds[i+1].n,ds[i+1].m⟩<0
         ·have jJ:=jq fi;have ia:=jq (uQ fi);clear fi;go_wp2_with fail;refine fG (by kernel_rfl) (by kernel_rfl) ?_
          repeat (go_big_quiet_step (first
           | (go_at_call 226;exact Calls.grow_of (Cm _ Bt Bu _ rx _ _ _ true jR.out))
           | (go_at_call 227;exact Calls.grow_of (Na _ _ _ _ _ _ _ true ia.out))))
          refine wpQuiet_nil ?_;rintro _ ⟨g,rfl⟩;go_wp2_with fail;go_roundw
          case rel=>
           go_light;exact⟨i+1+1,aa,by go_num,aP.out.trans (g.below.mono aP.out.size),by rw[HG.out,H1.out,Qb jJ.out]⟩
          case measure=>simp[intOf] <;> omega
         ·have jJ:=jq fi;have ia:=jq (tQ fi);clear fi;go_wp2_with fail;refine fG (by kernel_rfl) (by kernel_rfl) ?_
          repeat (go_big_quiet_step (first
           | (go_at_call 226;exact Calls.grow_of (Cm _ Bt Bu _ rx _ _ _ true jR.out))
           | (go_at_call 227;exact Calls.grow_of (Na _ _ _ _ _ _ _ false ia.out))))
          refine wpQuiet_nil ?_;rintro _ ⟨g,rfl⟩;go_wp2_with fail;go_ret;refine⟨ae ?_,ub.out.trans (g.below.mono (by omega))⟩;rw[HV.out,HG.out,H1.out,Qc (by have:=jJ.out;omega)]
       ·have y9:Np.je (Np.bH k) ⟨sd.data.toList,ds[j].n,ds[j].m⟩=false:=by simpa using pY
        have jR:=jq y9;clear pY y9;go_wp2_with fail;refine fG (by kernel_rfl) (by kernel_rfl) ?_
        repeat (go_big_quiet_step ((go_at_call 226;exact Calls.grow_of (Cm _ Bt Bu _ rx _ _ _ false jR.out))))
        refine wpQuiet_nil ?_;rintro _ ⟨g,rfl⟩;go_wp2_with fail;go_ret;refine⟨ae ?_,ub.out.trans (g.below.mono (by omega))⟩;rw[HV.out,HG.out,Np.J3 (aQ aa) (by rw[<-oX.out];exact jR.out)]
      ·go_wp2_with fail;go_ret;refine⟨ae ?_,aw.out.trans (aG.mono (by omega))⟩;rw[HV.out,HG.out,List.drop_eq_nil_of_le (by omega)];rfl
theorem vB{s:ByteArray}(h:Np.aC s.data.toList=true):s.size<=60:=by
 rw[Np.Od] at h;split at h
 ·rename_i e;rw[<-aU,e];decide
 ·split at h
  ·cases h
  ·rename_i h6;rw[aU] at h6;omega
theorem Yf(s1 s2:ByteArray)(t1 l1 t2 l2:Int)(v1 v2:Value)(d1 d2:List Np.Datum)(n1:Np.aC s1.data.toList=true)(n2:Np.aC s2.data.toList=true)(w:World) :
 Calls prog 234 #[.agg #[.string s1,.int .i64 t1,.int .i64 l1,v1],.agg #[.string s2,.int .i64 t2,.int .i64 l2,v2]] w
  λe w'=>e = .returned (.int .i64 (Np.fW ⟨s1.data.toList,t1,l1,d1⟩ ⟨s2.data.toList,t2,l2,d2⟩))/\Below w.heap.size w w':=by
 have hw:∀ o o',Below w.heap.size w ((w.alloc o).alloc o'):=λo o'=>((vQ _ w).alloc (bQ _) _).alloc (by simp) _;have HW:=jq hw;clear hw;have bj:=vB n1;have aJ:=vB n2;have N1:=jq n1;have N2:=jq n2;have hc:=Np.AO ⟨s1.data.toList,t1,l1,d1⟩ ⟨s2.data.toList,t2,l2,d2⟩;simp only at hc;rw[hc];clear n1 n2 hc;generalize hQ:Np.aD s1.data.toList s2.data.toList=q;have HQ:=jq hQ;clear hQ;have key:∀ r:Int,(q≠0->r=q)->(q=0->r=Np.bX t1 t2)->(if q≠0 then q else Np.bX t1 t2)=r:=λr h1 h2=>by
  by_cases h:q=0
  ·rw[Qc (λe=>e h),h2 h]
  ·rw[Qb h,h1 h]
 have KEY:=jq key;clear key;by_cases hq:q=0
 ·have KQ:=jq hq;subst hq;by_cases h1:t1<t2
  ·rw[KEY.out (-1) (λe=>absurd rfl e) (λ_=>by rw[Np.bX,Qb h1])];go_enter func234,ntmps234;go_wp2_with fail;refine (Cl s1 s2 (by omega) (by omega) N1.out N2.out _).mono ?_;rw[HQ.out];rintro e w1 ⟨rfl,hb⟩;obtain⟨bw,mx⟩:=qJ hb;have HB:=jq ((HW.out _ _).trans (hb.mono (by simp;omega)));clear hb;go_wp2_with fail;go_ret;exact⟨rfl,HB.out⟩
  ·by_cases h2:t2<t1
   ·rw[KEY.out 1 (λe=>absurd rfl e) (λ_=>by rw[Np.bX,Qc h1,Qb h2])];go_enter func234,ntmps234;go_wp2_with fail;refine (Cl s1 s2 (by omega) (by omega) N1.out N2.out _).mono ?_;rw[HQ.out];rintro e w1 ⟨rfl,hb⟩;obtain⟨bw,mx⟩:=qJ hb;have HB:=jq ((HW.out _ _).trans (hb.mono (by simp;omega)));clear hb;go_wp2_with fail;go_ret;exact⟨rfl,HB.out⟩
   ·rw[KEY.out 0 (λe=>absurd rfl e) (λ_=>by rw[Np.bX,Qc h1,Qc h2])];go_enter func234,ntmps234;go_wp2_with fail;refine (Cl s1 s2 (by omega) (by omega) N1.out N2.out _).mono ?_;rw[HQ.out];rintro e w1 ⟨rfl,hb⟩;obtain⟨bw,mx⟩:=qJ hb;have HB:=jq ((HW.out _ _).trans (hb.mono (by simp;omega)));clear hb;go_wp2_with fail;go_ret;exact⟨rfl,HB.out⟩
 ·have fO:(q != 0)=true:=by simpa using hq
  rw[KEY.out q (λ_=>rfl) (λe=>absurd e hq)];clear hq;go_enter func234,ntmps234;go_wp2_with fail;refine (Cl s1 s2 (by omega) (by omega) N1.out N2.out _).mono ?_;rw[HQ.out];rintro e w1 ⟨rfl,hb⟩;obtain⟨bw,mx⟩:=qJ hb;have HB:=jq ((HW.out _ _).trans (hb.mono (by simp;omega)));clear hb;go_wp2_with fail;go_ret;exact⟨rfl,HB.out⟩
theorem GH{c:UInt8}{r:List UInt8}(hc:c≠46):∃ x xs,Np.aO (c::r)=(c::x)::xs:=by
 unfold Np.aO;rw[Qc hc]
 cases Np.aO r with
 | nil=>exact⟨[],[],rfl⟩
 | cons x xs=>exact⟨x,xs,rfl⟩
theorem Ol{l:List UInt8}(h:Np.aC l=true):Np.dL l=((Np.dO l).head? == some [42]):=by
 unfold Np.dO;by_cases hd:l = [46]
 ·subst hd;decide
 ·rw[Qc hd]
  cases l with
  | nil=>exact absurd h (by decide)
  | cons c r=>
   have hg:Np.eE (Np.aO (c::r)).reverse 0 false=true:=by
    unfold Np.aC at h;rw[Qc hd] at h;split at h
    ·cases h
    ·exact h
   have hl:=Np.J6 _ _ _ hg;by_cases hc:c=46
   ·subst hc;have e:Np.aO (46::r) = []::Np.aO r:=by rw[Np.aO,Qb rfl]
    rw[e] at hl
    have:=hl [] (by simp)
    rcases this with h1 | h1
    ·cases h1
    ·exact absurd h1 (by decide)
   ·obtain⟨x,xs,e⟩:=GH (r:=r) hc;rw[e] at hl |-;rw[Bool.eq_iff_iff];simp only[Np.dL,List.head?_cons,beq_iff_eq,Option.some.injEq,List.cons.injEq];constructor
    ·rintro rfl;rcases hl (42::x) (by simp) with h1 | h1
     ·simpa using h1
     ·exfalso;unfold Np.bS at h1;simp only[Bool.and_eq_true,List.all_cons] at h1;exact absurd h1.2.1 (by decide)
    ·exact λh=>h.1
theorem Ng(s:ByteArray)(h:Np.aC s.data.toList=true)(w:World) :
 Calls prog 158 #[.string s] w λe w'=>e = .returned (.bool (Np.dL s.data.toList))/\Below w.heap.size w w':=by
 have hw:=Ol h;have an:=vB h;obtain⟨ps,fE⟩:∃ ps,Np.dO s.data.toList=ps:=⟨_,rfl⟩;obtain⟨r,hr⟩:∃ r,(ps.head? == some [42])=r:=⟨_,rfl⟩;rw[hw,fE,hr];have mZ:=jq fE;have HR:=jq hr;clear hw h fE hr;go_enter func158,ntmps158;go_wp2_with fail;refine (zu s (by omega) _).mono ?_;rw[mZ.out];rintro e w1 ⟨v,rfl,hv,hb⟩;have HB:=jq hb;clear hb;obtain⟨A,c,rfl,hc,hl,he⟩:=hv
 cases ps with
 | nil=>
  have HX:Hid (r=false):=jq (by rw[<-HR.out];rfl);go_wp2_with fail;go_ret;exact⟨ae HX.out.symm,HB.out⟩
 | cons x xs=>
  obtain⟨b,o,e,rfl,bG,_,hce,hx⟩:=he 0 x rfl;have hx':e = [aB x]:=hx;subst hx';have h0:w1.cell? ⟨b,o,none⟩=some (aB x):=by have:=hce 0 _ rfl;simpa using this
  have HX:Hid ((x == [42])=r):=jq (by rw[<-HR.out,List.head?_cons,Bool.eq_iff_iff];simp);obtain⟨n,hn⟩:∃ n,(x::xs).length=n:=⟨_,rfl⟩;have lU:0<n:=by rw[<-hn];simp
  have Uw:(0:Int)<(n:Int):=by omega
  rw[hn];clear he hce hx hc hl hn;go_wp2_with fail
  all_goals
   go_ret;refine⟨ae ?_,HB.out⟩;rw[<-HX.out]
theorem WG{x:List UInt8}(h:Np.aC x=true):x≠[]:=by
 rintro rfl;revert h;decide
def QN(w1:World)(apex:List UInt8)(l:List Np.Signed)(i:Value)(wr:World):Prop:=
 ∃ k:Nat,k<=l.length/\i = .int .i64 k/\Below w1.heap.size w1 wr/\Hid (∀ j x,j<k->l[j]?=some x->Np.cW x.set=true)/\Hid (Np.iJ apex none l=Np.iJ apex (nP l k) (l.drop k))
theorem Yb(a:ByteArray)(ha:a.size<=140737488355328)(v:Value)(l:List Np.Signed)(bI:l.length<=20000)(w:World)(hd:SlR bh 5 w w.heap.size v l) :
 Calls prog 159 #[.agg #[.string a,v]] w λe w'=>e = .returned (.bool (Np.dZ ⟨a.data.toList,l⟩))/\Below w.heap.size w w':=by
 have HD:=jq hd;obtain⟨A,c,rfl,bw,bT,-⟩:=hd;have HW:Hid (∀ o,Below w.heap.size w (w.alloc o)):=jq (λo=>(vQ _ w).alloc (bQ _) _);go_enter func159,ntmps159;go_wp2_with fail;refine (tR _ ha _).mono ?_;rintro e w1 ⟨rfl,hb⟩;have c0:w1.cell? ⟨w.heap.size,0,none⟩=some (.string a):=by rw[hb.cell (by simp)];go_simp
 have c1:w1.cell? ⟨w.heap.size,1,none⟩=some (.slice A l.length c):=by rw[hb.cell (by simp)];go_simp
 have du:w.heap.size<w1.heap.size:=by have:=hb.size;simp at this;omega
 have aq:=jq ((HW.out _).trans (hb.mono (by simp)));clear hb
 cases oG:Np.aC a.data.toList with
 | false=>
  have HF:Hid (Np.dZ ⟨a.data.toList,l⟩=false):=jq (by unfold Np.dZ;rw[oG];rfl);clear oG;go_wp2_with fail;go_ret;exact⟨ae HF.out.symm,aq.out⟩
 | true=>
  have ut:=jq oG;have haz:=vB oG;clear oG;go_wp2_with fail;refine (Ng a ut.out _).mono ?_;rintro e w0 ⟨rfl,cn⟩;have U7:=cn.size;replace c0:w0.cell? ⟨w.heap.size,0,none⟩=some (.string a):=(cn.cell (by simpa using du)).trans c0;replace c1:w0.cell? ⟨w.heap.size,1,none⟩=some (.slice A l.length c):=(cn.cell (by simpa using du)).trans c1;replace aq:=jq (aq.out.trans (cn.mono (by omega)));replace du:w.heap.size<w0.heap.size:=by omega
  clear cn U7;obtain⟨w1,rfl⟩:∃ w1,w1=w0:=⟨_,rfl⟩
  cases pZ:Np.dL a.data.toList with
  | true=>
   have HF:Hid (Np.dZ ⟨a.data.toList,l⟩=false):=jq (by unfold Np.dZ;rw[pZ];simp);go_wp2_with (go_at_call 225;refine (Cp a ha _).mono ?_;rintro e w' ⟨rfl,rfl⟩);go_ret;exact⟨ae HF.out.symm,aq.out⟩
  | false=>
   have HF:Hid (Np.dZ ⟨a.data.toList,l⟩=Np.iJ a.data.toList none l):=jq (by unfold Np.dZ;rw[pZ,ut.out];simp);go_wp2_with (go_at_call 225;refine (Cp a ha _).mono ?_;rintro e w' ⟨rfl,rfl⟩);clear pZ;go_loopw [3] (λi wr=>QN w1 a.data.toList l i wr) (λi _=>l.length - (intOf i).toNat)
   case atStart=>exact⟨0,jQ _,rfl,vQ _ _,jq (λj x hj=>by omega),jq rfl⟩
   case round=>
    obtain⟨k,hk,rfl,aG,HV,HG⟩:=hrel;have Vi:=aG.size;have d0:wr.cell? ⟨w.heap.size,0,none⟩=some (.string a):=by rw[aG.cell (by simpa using du)];exact c0
    have d1:wr.cell? ⟨w.heap.size,1,none⟩=some (.slice A l.length c):=by rw[aG.cell (by simpa using du)];exact c1
    have cZ:w.heap.size<wr.heap.size:=by omega
    by_cases aa:k<l.length
    ·have kA:Below w.heap.size w wr:=aq.out.trans (aG.mono (by omega));have ab:=aQ aa;obtain⟨b,o,c',sn,dv,sv,hA,bJ,_,ay,an,aW,aM,e0,e1,e2,e3,e4⟩:=eq (HD.out.keep aX kA) ab
     cases hA
     generalize hx:l[k]=x at *;clear hx;obtain⟨Ad,cd,rfl,Fg,Uq⟩:=al aW;have oY:=jq aW;have HX:=jq ab;have ry:(⟨sn.data.toList,x.set.type,x.set.life,x.set.data⟩:Np.DSet)=x.set:=by rw[ay]
     have IP:=jq ry;have aL:=jq ay;have aP:=jq aG;have ub:=jq kA;have se:=jq (HG.out.trans (Ox ab (nP l k)));clear aW aM ab ay aG kA c0 c1 ry e4;go_wp2_with fail;have kZ:Below wr.heap.size wr (wr.alloc (.cells #[.string sn,.int .i64 x.set.type,.int .i64 x.set.life,.slice Ad x.set.data.length cd] 26)):=(vQ _ _).alloc (bQ _) _;have p0:=World.cell?_alloc_new wr #[.string sn,.int .i64 x.set.type,.int .i64 x.set.life,.slice Ad x.set.data.length cd] 26 0;have p1:=World.cell?_alloc_new wr #[.string sn,.int .i64 x.set.type,.int .i64 x.set.life,.slice Ad x.set.data.length cd] 26 1;have p2:=World.cell?_alloc_new wr #[.string sn,.int .i64 x.set.type,.int .i64 x.set.life,.slice Ad x.set.data.length cd] 26 2;have p3:=World.cell?_alloc_new wr #[.string sn,.int .i64 x.set.type,.int .i64 x.set.life,.slice Ad x.set.data.length cd] 26 3;have fo:wr.heap.size<(wr.alloc (.cells #[.string sn,.int .i64 x.set.type,.int .i64 x.set.life,.slice Ad x.set.data.length cd] 26)).heap.size:=by simp
     generalize wr.alloc (.cells #[.string sn,.int .i64 x.set.type,.int .i64 x.set.life,.slice Ad x.set.data.length cd] 26)=wa at kZ p0 p1 p2 p3 fo |-;have eW:=jq kZ;have rV:=jq (ub.out.trans (kZ.mono (by omega)));replace d0:wa.cell? ⟨w.heap.size,0,none⟩=some (.string a):=by rw[kZ.cell (by simpa using cZ)];exact d0
     replace d1:wa.cell? ⟨w.heap.size,1,none⟩=some (.slice (some ⟨b,o,none⟩) l.length c):=by rw[kZ.cell (by simpa using cZ)];exact d1
     replace p0:wa.cell? ⟨wr.heap.size,0,none⟩=some (.string sn):=p0;replace p1:wa.cell? ⟨wr.heap.size,1,none⟩=some (.int .i64 x.set.type):=p1;replace p2:wa.cell? ⟨wr.heap.size,2,none⟩=some (.int .i64 x.set.life):=p2;replace p3:wa.cell? ⟨wr.heap.size,3,none⟩=some (.slice Ad x.set.data.length cd):=p3;have k9:∀ (g:bq wa) (p:Addr),p.block<wa.heap.size->g.w.cell? p=wa.cell? p:=λg p h=>g.cell p h;have aoX:w.heap.size<wa.heap.size:=by omega
     have aeY:b<wa.heap.size:=by omega
     have Hq:=jq ((oY.out.keep de (eW.out.mono (by omega))).more eN (show w.heap.size<=wa.heap.size by omega));clear kZ e0 e1 e2 e3;have cC:∀ g:bq wa,Calls prog 150 #[.agg #[.string sn,.int .i64 x.set.type,.int .i64 x.set.life,.slice Ad x.set.data.length cd]] g.w λe w'=>e = .returned (.bool (Np.cW x.set))/\Below g.w.heap.size g.w w':=λg=>by
      rw[<-IP.out];exact Nd sn an _ _ _ x.set.data _ (Hq.out.later de eN g.below)
     cases eL:Np.cW x.set with
     | false=>
      rw[eL] at cC;have mf:=jq cC;have jl:=jq eL;clear cC eL;refine fG (by kernel_rfl) (by kernel_rfl) ?_
      repeat (go_big_quiet_step ((go_at_call 150;exact Calls.grow_of (mf.out _))))
      refine wpQuiet_nil ?_;rintro _ ⟨g,rfl⟩;go_wp2_with fail;go_ret;refine⟨ae ?_,rV.out.trans (g.below.mono (by omega))⟩;rw[HF.out,se.out,jl.out,Bool.and_false];rfl
     | true=>
      rw[eL] at cC;have mf:=jq cC;have jl:=jq eL;have kc:Np.aC sn.data.toList=true:=by rw[aL.out];exact (Np.tV eL).1
      have gi:=jq kc;have U4:=vB kc;have hin:∀ g:bq wa,Calls prog 222 #[.string sn,.string a] g.w λe w'=>e = .returned (.bool (Np.bg sn.data.toList a.data.toList))/\Below g.w.heap.size g.w w':=λg=>by
       rw[<-Np.zg (WG ut.out)];exact Cn sn a (by omega) (by omega) _
      have yb:∀ j y,j<k+1->l[j]?=some y->Np.cW y.set=true:=λj y hj hy=>by
       by_cases e:j=k
       ·subst e;rw[HX.out] at hy;cases hy;exact eL
       ·exact HV.out j y (by omega) hy
      have nT:=jq yb;clear cC eL kc yb
      cases dE:Np.bg sn.data.toList a.data.toList with
      | false=>
       rw[dE] at hin;have iB:=jq hin;have xd:=jq dE;clear dE hin;refine fG (by kernel_rfl) (by kernel_rfl) ?_
       repeat (go_big_quiet_step (first
        | (go_at_call 150;exact Calls.grow_of (mf.out _))
        | (go_at_call 222;exact Calls.grow_of (iB.out _))))
       refine wpQuiet_nil ?_;rintro _ ⟨g,rfl⟩;go_wp2_with fail;go_ret;refine⟨ae ?_,rV.out.trans (g.below.mono (by omega))⟩;rw[HF.out,se.out,<-aL.out,gi.out,xd.out];rfl
      | true=>
       rw[dE] at hin;have iB:=jq hin;have yV:Np.iJ a.data.toList none l=((match nP l k with | none=>true | some q=>decide (Np.fW q x.set<0))&&Np.iJ a.data.toList (nP l (k+1)) (l.drop (k+1))):=by
        rw[se.out,<-aL.out,gi.out,dE,jl.out,CL HX.out];rfl
       have cP:=jq yV;clear dE hin yV;by_cases bO:k=0
       ·subst bO;refine fG (by kernel_rfl) (by kernel_rfl) ?_
        repeat (go_big_quiet_step (first
         | (go_at_call 150;exact Calls.grow_of (mf.out _))
         | (go_at_call 222;exact Calls.grow_of (iB.out _))))
        refine wpQuiet_nil ?_;rintro _ ⟨g,rfl⟩;go_wp2_with fail;go_roundw
        case rel=>exact⟨1,by omega,by go_num,aP.out.trans ((eW.out.trans (g.below.mono (by omega))).mono aP.out.size),nT,jq (by rw[cP.out];rfl)⟩
        case measure=>simp[intOf] <;> omega
       ·obtain⟨i,rfl⟩:∃ i,k=i+1:=⟨k - 1,by omega⟩;have pD:=aQ (show i<l.length by omega);obtain⟨b',o',c'',sq,dq,sg,nk,yf,_,jE,Lw,yn,_,f0,f1,f2,f3,_⟩:=eq ((HD.out.keep aX rV.out)) pD
        cases nk
        generalize hy:l[i]=y at *;clear hy;obtain⟨Aq,cq,rfl,TG,K0⟩:=al yn;have Ls:(⟨sq.data.toList,y.set.type,y.set.life,y.set.data⟩:Np.DSet)=y.set:=by rw[jE]
        have LI:Np.aC sq.data.toList=true:=by rw[jE];exact (Np.tV (HV.out i y (by omega) pD)).1
        have Lk:nP l (i+1)=some y.set:=CL pD;have sA:=jq Lk;have Lf:∀ g:bq wa,Calls prog 234 #[.agg #[.string sq,.int .i64 y.set.type,.int .i64 y.set.life,.slice Aq y.set.data.length cq],.agg #[.string sn,.int .i64 x.set.type,.int .i64 x.set.life,.slice Ad x.set.data.length cd]] g.w λe w'=>e = .returned (.int .i64 (Np.fW y.set x.set))/\Below g.w.heap.size g.w w':=λg=>by
         have:=Yf sq sn y.set.type y.set.life x.set.type x.set.life (.slice Aq y.set.data.length cq) (.slice Ad x.set.data.length cd) y.set.data x.set.data LI gi.out g.w
         rw[Ls,IP.out] at this;exact this
        have It:=jq Lf;clear Ls Lk yn jE pD Lf LI;have my:(0:Int)<=(i:Int):=by omega
        have pF:(i:Int)<(l.length:Int):=by omega
        have UH:(0:Int)<(((i+1:Nat)):Int):=by omega
        have ah:IntKind.i64.wrap (((i+1:Nat):Int) - 1)=(i:Int):=by rw[IntWalk.i64_in _ (by omega)];omega
        by_cases fi:Np.fW y.set x.set<0
        ·have jJ:=jq (uQ fi);have Fj:¬ (0<=Np.fW y.set x.set):=by omega
         refine fG (by kernel_rfl) (by kernel_rfl) ?_
         repeat (go_big_quiet_step (first
          | (go_at_call 150;exact Calls.grow_of (mf.out _))
          | (go_at_call 222;exact Calls.grow_of (iB.out _))
          | (go_at_call 234;exact Calls.grow_of (It.out _))))
         refine wpQuiet_nil ?_;rintro _ ⟨g,rfl⟩;go_wp2_with fail;go_roundw
         case rel=>
          refine⟨i+1+1,by omega,by go_num,aP.out.trans ((eW.out.trans (g.below.mono (by omega))).mono aP.out.size),nT,jq ?_⟩;rw[cP.out,sA.out];simp only[jJ.out,Bool.true_and]
         case measure=>simp[intOf] <;> omega
        ·have jJ:=jq (tQ fi);have Fj:0<=Np.fW y.set x.set:=by omega
         refine fG (by kernel_rfl) (by kernel_rfl) ?_
         repeat (go_big_quiet_step (first
          | (go_at_call 150;exact Calls.grow_of (mf.out _))
          | (go_at_call 222;exact Calls.grow_of (iB.out _))
          | (go_at_call 234;exact Calls.grow_of (It.out _))))
         refine wpQuiet_nil ?_;rintro _ ⟨g,rfl⟩;go_wp2_with fail;go_ret;refine⟨ae ?_,rV.out.trans (g.below.mono (by omega))⟩;rw[HF.out,cP.out,sA.out];simp only[jJ.out,Bool.false_and]
    ·go_wp2_with fail;go_ret;refine⟨ae ?_,aq.out.trans (aG.mono (by omega))⟩;rw[HF.out,HG.out,List.drop_eq_nil_of_le (by omega)];rfl
end
namespace Np
def hxN:Signed:=⟨⟨[120],2,0,[⟨[97],0,0⟩]⟩,[]⟩
def hxS:Signed:=⟨⟨[120],4,0,[⟨[],1,0⟩]⟩,[]⟩
def hxW(life:Int)(sg:List Sig):Signed:=⟨⟨[119,46,120],1,life,[⟨[],7,0⟩]⟩,sg⟩
def hxZ(life:Int)(sg:List Sig):Zone:=⟨[120],[hxN,hxS,hxW life sg]⟩
def hxC(life:Int)(sg:List Sig):List Copy:=[⟨0,0,20,hxZ life sg⟩]
def hxH(life:Int)(sg:List Sig):Hist:=⟨[⟨[97],1,0⟩],hxC life sg,⟨[46],6,0,[⟨[],1,1⟩]⟩,[1],2,50⟩
def hxG:Sig:=⟨[120],1,1,0,25,0⟩
def lG(life:Int)(sg:List Sig):Prop:=(life=10/\sg = [])\/(life=10/\sg = [hxG])\/(life=0/\sg = [])
theorem Vq{life:Int}{sg:List Sig}(h:lG life sg):dZ (hxZ life sg)=true:=by
 rcases h with ⟨rfl,rfl⟩ | ⟨rfl,rfl⟩ | ⟨rfl,rfl⟩ <;> decide
theorem Vl{life:Int}{sg:List Sig}(h:lG life sg):dl (hxZ life sg) = [[],[],[]]:=by
 rcases h with ⟨rfl,rfl⟩ | ⟨rfl,rfl⟩ | ⟨rfl,rfl⟩ <;> decide
theorem Vr{life:Int}{sg:List Sig}(h:lG life sg):VZone (hxZ life sg):=by
 have hb:=Vl h;refine⟨Vq h,by simp[hxZ],⟨hxS,by simp[hxZ],rfl,rfl⟩,⟨hxN,by simp[hxZ],rfl,rfl⟩,λx hx=>?_,λi hi ht=>?_,λi hi ht=>?_,λi x b hx cL=>?_,λi x b hx cL=>?_,λx hx=>?_⟩
 ·simp only[hxZ,List.mem_cons,Qh,or_false] at hx;rcases hx with rfl | rfl | rfl <;> rfl
 ·match i,hi with
  | 0,_=>exact absurd ht (by simp[hxZ,hxS])
  | 1,_=>exact absurd ht (by simp[hxZ,hxW])
  | i+2,hi=>exact absurd hi (by simp[hxZ])
 ·match i,hi with
  | 0,_=>exact absurd ht (by simp[hxZ,hxN])
  | 1,_=>exact absurd ht (by simp[hxZ,hxS])
  | i+2,hi=>exact absurd hi (by simp[hxZ])
 ·rw[hb] at cL
  match i,hx,cL with
  | 0,hx,cL=>simp[hxZ] at hx cL;subst hx;subst cL;simp[jg,hxN]
  | 1,hx,cL=>simp[hxZ] at hx cL;subst hx;subst cL;simp[jg,hxS]
  | 2,hx,cL=>simp[hxZ] at hx cL;subst hx;subst cL;simp[jg,hxW]
  | i+3,hx,cL=>simp[hxZ] at hx
 ·rw[hb] at cL
  match i,hx,cL with
  | 0,hx,cL=>simp at cL;subst cL;intro h;exact absurd rfl h
  | 1,hx,cL=>simp at cL;subst cL;intro h;exact absurd rfl h
  | 2,hx,cL=>simp at cL;subst cL;intro h;exact absurd rfl h
  | i+3,hx,cL=>simp[hxZ] at hx
 ·simp only[hxZ,List.mem_cons,Qh,or_false] at hx;rcases hx with rfl | rfl | rfl
  ·exact⟨by decide,λi g hg=>by simp[hxN] at hg⟩
  ·exact⟨by decide,λi g hg=>by simp[hxS] at hg⟩
  ·rcases h with ⟨rfl,rfl⟩ | ⟨rfl,rfl⟩ | ⟨rfl,rfl⟩
   ·exact⟨by decide,λi g hg=>by simp[hxW] at hg⟩
   ·refine⟨by decide,λi g hg=>?_⟩
    match i,hg with
    | 0,hg=>
     simp[hxW] at hg;subst hg;exact⟨rfl,by decide,by decide,by decide,λa ha=>by simp[hxW] at ha;subst ha;exact⟨rfl,rfl⟩,λp _ h=>absurd h (by decide)⟩
    | i+1,hg=>simp[hxW] at hg
   ·exact⟨by decide,λi g hg=>by simp[hxW] at hg⟩
theorem LM{life:Int}{sg:List Sig}(h:lG life sg):VHist (hxH life sg):=by
 refine⟨by simp[hxH],by simp[hxH],⟨by simp[hxH],λx hx=>?_,by simp[hxH]⟩,⟨by show cW ⟨[46],6,0,[⟨[],1,1⟩]⟩=true;decide,rfl,rfl,by simp[hxH],λn hn=>?_⟩,λc hc=>?_,List.pairwise_singleton _ _⟩
 ·simp only[hxH,List.mem_cons,Qh,or_false] at hx;subst hx;exact⟨by decide,by decide,by decide,by decide⟩
 ·simp only[hxH,List.mem_cons,Qh,or_false] at hn;subst hn;decide
 ·simp only[hxH,hxC,List.mem_cons,Qh,or_false] at hc;subst hc;exact⟨by simp[hxH],by simp[hxH],Vr h⟩
theorem Vk(life:Int)(sg:List Sig):apexes (hxC life sg) = [[120]]:=by
 rw[<-En];rfl
theorem Vp{life:Int}{sg:List Sig}(h:lG life sg):pub (hxC life sg) [120] = [⟨[120],hxN,[⟨0,20⟩],[]⟩,⟨[120],hxS,[⟨0,20⟩],[]⟩,⟨[120],hxW life sg,[⟨0,20⟩],[]⟩]:=by
 have h1:f9 [⟨0,20⟩] = [⟨0,20⟩]:=My (by simp) (by decide) (λt=>by simp[inS]);rw[<-h1];rcases h with ⟨rfl,rfl⟩ | ⟨rfl,rfl⟩ | ⟨rfl,rfl⟩ <;> rfl
theorem GS{x:Held}{d b e:Int}(hf:x.fresh = [⟨0,b⟩])(hb:0<b)(he:max b (eu x.signed d b)=e):kj x d = [⟨0,e⟩]:=by
 unfold kj;rw[hf];have hs:js x.signed d ⟨0,b⟩=⟨0,e⟩:=by unfold js;rw[<-he]
 rw[List.map_cons,List.map_nil,hs];exact My (by intro s hs;rw[List.mem_singleton] at hs;subst hs;show (0:Int)<e;omega) (by omega) (λt=>by simp[inS])
theorem LK{life:Int}{sg:List Sig}(h:lG life sg){e:Int}(he:max 20 (eu (hxW life sg) 2 20)=e):cK (hxH life sg) = [⟨[120],hxN,[⟨0,20⟩],[⟨0,24⟩]⟩,⟨[120],hxS,[⟨0,20⟩],[⟨0,24⟩]⟩,⟨[120],hxW life sg,[⟨0,20⟩],[⟨0,e⟩]⟩]:=by
 unfold cK pubAll;rw[show (hxH life sg).copies=hxC life sg from rfl,Vk,List.flatMap_cons,List.flatMap_nil,List.append_nil,Vp h];simp only[List.map_cons,List.map_nil];rw[GS (d:=(hxH life sg).drift) (b:=20) (e:=24) rfl (by decide) (by rfl),GS (d:=(hxH life sg).drift) (b:=20) (e:=24) rfl (by decide) (by rfl),GS (d:=(hxH life sg).drift) (b:=20) (e:=e) rfl (by decide) he]
theorem Vo{life:Int}{sg:List Sig}(h:lG life sg){e:Int}(he:max 20 (eu (hxW life sg) 2 20)=e)(t:Int):dP (cK (hxH life sg)) [119,46,120] 1 t=if 0<=t/\t<e then [hxW life sg] else []:=by
 rw[LK h he];unfold dP;have h1:(hxN.set.name == ([119,46,120]:List UInt8))=false:=by decide
 have h2:(hxS.set.name == ([119,46,120]:List UInt8))=false:=by decide
 have h3:((hxW life sg).set.name == ([119,46,120]:List UInt8))=true:=rfl;have h4:decide ((hxW life sg).set.type=1)=true:=rfl;have h5:dP.l1 [⟨0,e⟩] t=decide (0<=t/\t<e):=by
  rw[Bool.eq_iff_iff,Gd,Qa];simp[inS]
 simp only[List.filter_cons,List.filter_nil,h1,h2,h3,h4,h5,Bool.false_and,Bool.true_and,Qa,Bool.false_eq_true,if_false];split <;> rfl
theorem LL:max 20 (eu (hxW 10 []) 2 20)=33:=by rfl
theorem Vm:max 20 (eu (hxW 10 [hxG]) 2 20)=28:=by rfl
theorem Vn:max 20 (eu (hxW 0 []) 2 20)=24:=by rfl
end Np
end Go.Proofs.YtfnopgdcaanaiaaGreatDoor
