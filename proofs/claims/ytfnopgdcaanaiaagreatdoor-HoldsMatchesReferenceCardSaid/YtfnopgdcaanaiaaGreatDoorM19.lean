/- Parts of the proof. No condition. -/
import Derived.Test.YtfnopgdcaanaiaaGreatDoorM11
import Derived.Test.YtfnopgdcaanaiaaGreatDoorM14
set_option linter.all false
set_option maxRecDepth 100000
set_option maxHeartbeats 8000000
namespace Go.Proofs.YtfnopgdcaanaiaaGreatDoor
open Go.Proofs.Tryz
section
open Go.RowKit
theorem axK(s z:ByteArray)(hs:s.size<=140737488355328)(hz:z.size<=140737488355328)(w:World) :
 Calls prog 148 #[.string s,.string z] w (a0X w.heap.size w (.bool (Np.yes (Np.sm s.data.toList z.data.toList)))):=by
 obtain⟨r,hr⟩:=acJ (Np.yes (Np.sm s.data.toList z.data.toList));rw[hr];have cI:Hid (¬ Np.sm s.data.toList z.data.toList->r=false):=jq (λh=>by rw[<-hr];exact Np.aF h);have nC:Hid (Np.sm s.data.toList z.data.toList->r=true):=jq (λh=>by rw[<-hr];exact Np.bh h);have HS:=jq hs;have HZ:=jq hz;clear hr hs hz;obtain⟨v1,h1⟩:=acJ (Np.aD s.data.toList);obtain⟨v2,h2⟩:=acJ (Np.aD z.data.toList);have H1:=jq h1;have H2:=jq h2;clear h1 h2;go_enter func148,ntmps148;go_wp2_with fail;refine (tk s HS.out w).mono ?_;rw[H1.out];rintro e w1 ⟨rfl,hb⟩;have av:=jq hb;clear hb;go_wp2_with fail;refine (tk z HZ.out w1).mono ?_;rw[H2.out];rintro e w2 ⟨rfl,hb⟩;have ai:=jq (av.out.trans (hb.mono av.out.size));clear hb
 cases v1 with
 | false=>
  have HF:=jq (cI.out (λk=>absurd (H1.out.symm.trans k.1) (by decide)));go_wp2_with fail;go_ret;exact⟨ag HF.out.symm,ai.out⟩
 | true=>
  cases v2 with
  | false=>
   have HF:=jq (cI.out (λk=>absurd (H2.out.symm.trans k.2.1) (by decide)));go_wp2_with fail;go_ret;exact⟨ag HF.out.symm,ai.out⟩
  | true=>
   obtain⟨wi,h3⟩:=acJ (Np.eD z.data.toList);have H3:=jq h3;clear h3;go_wp2_with fail;refine (K9 z H2.out w2).mono ?_;rw[H3.out];rintro e w3 ⟨rfl,hb⟩;have ar:=jq (ai.out.trans (hb.mono ai.out.size));clear hb
   cases wi with
   | true=>
    have HF:=jq (cI.out (λk=>absurd (H3.out.symm.trans k.2.2.1) (by decide)));go_wp2_with fail;go_ret;exact⟨ag HF.out.symm,ar.out⟩
   | false=>
    obtain⟨u,h4⟩:=acJ (Np.bD s.data.toList z.data.toList);have HF:Hid (r=u):=jq (by
     cases u with
     | true=>exact nC.out ⟨H1.out,H2.out,H3.out,h4⟩
     | false=>exact cI.out (λk=>absurd (h4.symm.trans k.2.2.2) (by decide)))
    have bL:∀ w,Calls prog 222 #[.string s,.string z] w (a0X w.heap.size w (.bool u)):=λw=>by
     rw[<-h4,<-Np.zB (Rm H2.out)];exact C2 s z (by have:=uT H1.out;omega) (by have:=uT H2.out;omega) _
    have nh:=jq bL;clear h4 bL;go_wp2_with fail;refine (nh.out w3).mono ?_;rintro e w4 ⟨rfl,hb⟩;have aU:=jq (ar.out.trans (hb.mono ar.out.size));clear hb;go_wp2_with fail;go_ret;exact⟨ag HF.out.symm,aU.out⟩
theorem axZ(s z:ByteArray)(ty lf til:Int)(dA:Option Addr)(dn dc:Nat)(gA:Option Addr)(gn gc:Nat)(w:World) :
 Calls prog 149 #[.agg #[.string s,.int .i64 ty,.int .i64 lf,.slice dA dn dc,.slice gA gn gc,.string z,.int .i64 til]] w (a0X w.heap.size w (.bool (decide (dn=0)))):=by
 go_enter func149,ntmps149;go_wp2_with fail;refine bodyPost_ret (v:=.bool (decide (dn=0))) ?_ rfl ⟨rfl,(vQ _ _).alloc (bQ _) _⟩;by_cases h:dn=0
 ·subst h;simp[results,results149,go_sem]
 ·simp[results,results149,go_sem,h]
theorem axJ(s z:ByteArray)(hs:s.size<=140737488355328)(hz:z.size<=140737488355328)(ty lf til:Int)(dA:Option Addr)(dn dc:Nat)(gA:Option Addr)(gn gc:Nat)(d:List Np.Datum)(g:List Np.Sig)(w:World)(hd:SlR bR 3 w w.heap.size (.slice dA dn dc) d)(hg:SlR cS 6 w w.heap.size (.slice gA gn gc) g) :
 Calls prog 77 #[.agg #[.string s,.int .i64 ty,.int .i64 lf,.slice dA dn dc,.slice gA gn gc,.string z,.int .i64 til]] w λe w'=>e = .returned (.bool (Np.yes (Np.EntOk ⟨⟨⟨s.data.toList,ty,lf,d⟩,g⟩,z.data.toList,til⟩)))/\Below w.heap.size w w':=by
 obtain⟨r,hr⟩:=acJ (Np.yes (Np.EntOk ⟨⟨⟨s.data.toList,ty,lf,d⟩,g⟩,z.data.toList,til⟩));rw[hr];have cI:Hid (¬ Np.EntOk ⟨⟨⟨s.data.toList,ty,lf,d⟩,g⟩,z.data.toList,til⟩->r=false):=jq (λh=>by rw[<-hr];exact Np.aF h);have nC:Hid (Np.EntOk ⟨⟨⟨s.data.toList,ty,lf,d⟩,g⟩,z.data.toList,til⟩->r=true):=jq (λh=>by rw[<-hr];exact Np.bh h);have HS:=jq hs;have HZ:=jq hz;have HD:=jq hd;have HG:=jq hg;have kK:Hid (d.length=dn):=jq (FX hd);have pI:Hid (g.length=gn):=jq (FX hg);clear hr hs hz hd hg;obtain⟨X,hX⟩:=acJ w.heap.size;obtain⟨w1,ah⟩:=acJ ((w.alloc (.cells #[.string s,.int .i64 ty,.int .i64 lf,.slice dA dn dc,.slice gA gn gc,.string z,.int .i64 til] 83)).alloc (.cells #[.string s,.int .i64 ty,.int .i64 lf,.slice dA dn dc] 26));have bd:w1.heap.size=X+2:=by rw[<-ah,<-hX];simp
 have hb:Below w.heap.size w w1:=by rw[<-ah];exact ((vQ _ _).alloc (bQ _) _).alloc (by simp) _
 have az:Hid (ls w1 X [.string s,.int .i64 ty,.int .i64 lf,.slice dA dn dc,.slice gA gn gc,.string z,.int .i64 til]):=jq (by
  rw[<-ah,<-hX];exact (iq [.string s,.int .i64 ty,.int .i64 lf,.slice dA dn dc,.slice gA gn gc,.string z,.int .i64 til] 83 rfl rfl).keep ((vQ _ _).alloc (bQ _) _) (by simp))
 have mv:Hid (ls w1 (X+1) [.string s,.int .i64 ty,.int .i64 lf,.slice dA dn dc]):=jq (by
  have:=iq [.string s,.int .i64 ty,.int .i64 lf,.slice dA dn dc] 26 (w:=w.alloc (.cells #[.string s,.int .i64 ty,.int .i64 lf,.slice dA dn dc,.slice gA gn gc,.string z,.int .i64 til] 83)) (X:=X+1) (by simp[hX]) ah
  exact this)
 have av:=jq hb;clear hb;have p0:=az.out 0 _ rfl;have p1:=az.out 1 _ rfl;have p2:=az.out 2 _ rfl;have p3:=az.out 3 _ rfl;have p4:=az.out 4 _ rfl;have p5:=az.out 5 _ rfl;have p6:=az.out 6 _ rfl;have q0:=mv.out 0 _ rfl;have q1:=mv.out 1 _ rfl;have q2:=mv.out 2 _ rfl;have q3:=mv.out 3 _ rfl;go_enter func77,ntmps77;go_wp2_with fail;clear ah;clear p0 p1 p2 p3 p4 p5 p6 q0 q1 q2 q3;refine (axK s z HS.out HZ.out w1).mono ?_;rintro e w2 ⟨rfl,hb⟩;have aN:=hb.size;have aZ:=jq (az.out.keep hb (by omega));have mw:=jq (mv.out.keep hb (by omega));have ai:=acZ av hb;clear hb;have p0:=aZ.out 0 _ rfl;have p1:=aZ.out 1 _ rfl;have p2:=aZ.out 2 _ rfl;have p3:=aZ.out 3 _ rfl;have p4:=aZ.out 4 _ rfl;have p5:=aZ.out 5 _ rfl;have p6:=aZ.out 6 _ rfl;by_cases hin:Np.sm s.data.toList z.data.toList
 case neg=>
  rw[Np.aF hin];have HF:=jq (cI.out (λk=>hin (Np.lI.1 k).1.1));clear hin;go_wp2_with fail;go_ret;exact⟨ag HF.out.symm,ai.out⟩
 case pos=>
  rw[Np.bh hin];have fZ:=jq hin;clear hin;by_cases t1:til<1
  ·have d1:decide (til<1)=true:=uQ t1;have HF:=jq (cI.out (λk=>by have:=(Np.lI.1 k).1.2.1;dsimp only at this;omega));clear t1;go_wp2_with fail;go_ret;exact⟨ag HF.out.symm,ai.out⟩
  ·have d1:decide (til<1)=false:=tQ t1;by_cases t2:20100001<til
   ·have d2:decide (20100001<til)=true:=uQ t2;have HF:=jq (cI.out (λk=>by have:=(Np.lI.1 k).1.2.2;dsimp only at this;omega));clear t1 t2;go_wp2_with fail;go_ret;exact⟨ag HF.out.symm,ai.out⟩
   ·have d2:decide (20100001<til)=false:=tQ t2;have AV:Hid (Np.IG til):=jq ⟨by omega,by omega⟩;clear t1 t2;obtain⟨b0,cP⟩:=acJ (decide (dn=0));have aG:=jq cP;clear cP;go_wp2_with fail;refine (axZ s z ty lf til dA dn dc gA gn gc w2).mono ?_;rw[aG.out];rintro e w3 ⟨rfl,hb⟩;have eR:=hb.size;have bi:=jq (aZ.out.keep hb (by omega));have tG:=jq (mw.out.keep hb (by omega));have ar:=acZ ai hb;clear hb p0 p1 p2 p3 p4 p5 p6;have p4:=bi.out 4 _ rfl;have p5:=bi.out 5 _ rfl;have q0:=tG.out 0 _ rfl;have q1:=tG.out 1 _ rfl;have q2:=tG.out 2 _ rfl;have q3:=tG.out 3 _ rfl
    cases b0 with
    | true=>
     have lV:Hid (d = []):=jq (rQ (kK.out.trans (of_decide_eq_true aG.out)));have oG:Hid (Np.Bj ⟨⟨⟨s.data.toList,ty,lf,d⟩,g⟩,z.data.toList,til⟩->r=true):=jq (λk=>nC.out (Np.lI.2 ⟨⟨fZ.out,AV.out⟩,.inl ⟨lV.out,k⟩⟩));have qR:Hid (¬ Np.Bj ⟨⟨⟨s.data.toList,ty,lf,d⟩,g⟩,z.data.toList,til⟩->r=false):=jq (λh=>cI.out (λk=>by
      rcases (Np.lI.1 k).2 with h2 | h2
      ·exact h h2.2
      ·exact h2.1 lV.out))
     by_cases t3:1<=ty
     case neg=>
      have d3:decide (1<=ty)=false:=tQ t3;have HF:=jq (qR.out (λk=>t3 k.1.1));clear t3;go_wp2_with fail;go_ret;exact⟨ag HF.out.symm,ar.out⟩
     case pos=>
      have d3:decide (1<=ty)=true:=uQ t3;by_cases t4:ty<=8
      case neg=>
       have d4:decide (ty<=8)=false:=tQ t4;have HF:=jq (qR.out (λk=>t4 k.1.2));clear t3 t4;go_wp2_with fail;go_ret;exact⟨ag HF.out.symm,ar.out⟩
      case pos=>
       have d4:decide (ty<=8)=true:=uQ t4;by_cases t5:0<=lf
       case neg=>
        have d5:decide (0<=lf)=false:=tQ t5;have HF:=jq (qR.out (λk=>t5 k.2.1.1));clear t3 t4 t5;go_wp2_with fail;go_ret;exact⟨ag HF.out.symm,ar.out⟩
       case pos=>
        have d5:decide (0<=lf)=true:=uQ t5;by_cases t6:lf<=100000
        case neg=>
         have d6:decide (lf<=100000)=false:=tQ t6;have HF:=jq (qR.out (λk=>t6 k.2.1.2));clear t3 t4 t5 t6;go_wp2_with fail;go_ret;exact⟨ag HF.out.symm,ar.out⟩
        case pos=>
         have d6:decide (lf<=100000)=true:=uQ t6;by_cases eH:gn=0
         ·subst eH;have HF:=jq (oG.out ⟨⟨t3,t4⟩,⟨t5,t6⟩,rQ pI.out⟩);clear t3 t4 t5 t6;go_wp2_with fail;go_ret;exact⟨ag HF.out.symm,ar.out⟩
         ·have n1:((gn:Int) == 0)=false:=by simpa using eH
          have n2:(gn == 0)=false:=by simpa using eH
          have n3:decide ((gn:Int)=0)=false:=adJ;have HF:=jq (qR.out (λk=>eH (by rw[<-pI.out];have:=k.2.2;dsimp only at this;rw[this];rfl)));clear t3 t4 t5 t6;go_wp2_with fail;go_ret;refine⟨ag ?_,ar.out⟩
          first | exact HF.out.symm | rfl | exact n1 | exact n2 | exact n3 | simp[eH]
    | false=>
     have lV:Hid (d≠[]):=jq (λh=>(of_decide_eq_false aG.out) (by rw[<-kK.out,h];rfl));have oG:Hid (r=(Np.cZ ⟨s.data.toList,ty,lf,d⟩&&Np.yes (Np.eK z.data.toList g))):=jq (by
      by_cases h1:Np.cZ ⟨s.data.toList,ty,lf,d⟩=true
      ·by_cases h2:Np.eK z.data.toList g
       ·rw[h1,Np.bh h2];exact nC.out (Np.lI.2 ⟨⟨fZ.out,AV.out⟩,.inr ⟨lV.out,h1,h2⟩⟩)
       ·rw[h1,Np.aF h2];refine cI.out (λk=>?_);rcases (Np.lI.1 k).2 with h3 | h3
        ·exact lV.out h3.1
        ·exact h2 h3.2.2
      ·rw[Bool.not_eq_true] at h1;rw[h1];refine cI.out (λk=>?_);rcases (Np.lI.1 k).2 with h3 | h3
       ·exact lV.out h3.1
       ·have h4:=h3.2.1;dsimp only at h4;rw[h1] at h4
        cases h4)
     obtain⟨vb,mo⟩:=acJ (Np.cZ ⟨s.data.toList,ty,lf,d⟩);have nA:=jq mo;clear mo;go_wp2_with fail;refine (K8 s HS.out ty lf _ d w3 ((HD.out.keep bV ar.out).more cu ar.out.size)).mono ?_;rw[nA.out];rintro e w4 ⟨rfl,hb⟩;have bZ:=jq (bi.out.keep hb (by omega));have aU:=acZ ar hb;clear hb p4 p5 q0 q1 q2 q3;have p4:=bZ.out 4 _ rfl;have p5:=bZ.out 5 _ rfl
     cases vb with
     | false=>
      go_wp2_with fail;go_ret;exact⟨ag (by rw[oG.out,nA.out];rfl),aU.out⟩
     | true=>
      go_wp2_with fail;refine (R1 z _ g w4 ((HG.out.keep cg aU.out).more cY aU.out.size)).mono ?_;rintro e w5 ⟨rfl,hb⟩;have bN:=jq (aU.out.trans (hb.mono aU.out.size));clear hb;go_wp2_with fail;go_ret;exact⟨ag (by rw[oG.out,nA.out];rfl),bN.out⟩
theorem axQ(s1 z1 s2 z2:ByteArray)(t1 l1 u1 t2 l2 u2:Int)(dA:Option Addr)(dn dc:Nat)(gA:Option Addr)(gn gc:Nat)(eA:Option Addr)(en ec:Nat)(hA:Option Addr)(hn hc:Nat)(w:World) :
 Calls prog 78 #[.agg #[.string s1,.int .i64 t1,.int .i64 l1,.slice dA dn dc,.slice gA gn gc,.string z1,.int .i64 u1],.agg #[.string s2,.int .i64 t2,.int .i64 l2,.slice eA en ec,.slice hA hn hc,.string z2,.int .i64 u2]] w (a0X w.heap.size w (.bool (decide ((s1.data.toList,t1,z1.data.toList)=(s2.data.toList,t2,z2.data.toList))))):=by
 obtain⟨r,hr⟩:=acJ (decide ((s1.data.toList,t1,z1.data.toList)=(s2.data.toList,t2,z2.data.toList)));rw[hr];have HR:Hid (r=(decide (s1.data.toList=s2.data.toList)&&(decide (t1=t2)&&decide (z1.data.toList=z2.data.toList)))):=jq (by
  rw[<-hr,Bool.eq_iff_iff];simp only[Qa,Bool.and_eq_true,Prod.mk.injEq])
 clear hr;rw[HR.out];by_cases h1:s1.data.toList=s2.data.toList
 case neg=>
  have e1:(s1.toList == s2.toList)=false:=by rw[dQ,dQ];exact beq_eq_false_iff_ne.2 h1
  rw[tQ h1];clear h1;go_enter func78,ntmps78;go_wp2_with fail;go_ret;exact⟨rfl,((vQ _ _).alloc (bQ _) _).alloc (by simp) _⟩
 case pos=>
  have e1:(s1.toList == s2.toList)=true:=by rw[dQ,dQ,h1];simp
  rw[uQ h1];clear h1;by_cases h2:t1=t2
  case neg=>
   have e2:(t1 == t2)=false:=beq_eq_false_iff_ne.2 h2;rw[tQ h2];clear h2;go_enter func78,ntmps78;go_wp2_with fail;go_ret;exact⟨rfl,((vQ _ _).alloc (bQ _) _).alloc (by simp) _⟩
  case pos=>
   subst h2;rw[show decide (t1=t1)=true by simp];obtain⟨b,hb⟩:=acJ (decide (z1.data.toList=z2.data.toList));have e3:(z1.toList == z2.toList)=b:=by rw[dQ,dQ,<-hb,Bool.eq_iff_iff];simp
   rw[hb];clear hb;go_enter func78,ntmps78;go_wp2_with fail;go_ret;exact⟨rfl,((vQ _ _).alloc (bQ _) _).alloc (by simp) _⟩
def Np.ye(e:Np.Ent22):Prop:=e.signed.set.data.length<=20/\e.signed.sigs.length<=20/\e.zone.length<=100
def Np.Gg(l:List Np.Ent22):Prop:=l.length<=410/\∀ e∈l,Np.ye e
theorem Xj(v:Value)(l:List Np.Ent22)(w:World)(hd:SlR lE 7 w w.heap.size v l) :
 Calls prog 27 #[.agg #[v]] w λe w'=>e = .returned (.bool (Np.yes (Np.Gg l)))/\Below w.heap.size w w':=by
 obtain⟨r,hr⟩:=acJ (Np.yes (Np.Gg l));rw[hr];have HR:=jq hr;have HD:=jq hd;obtain⟨A,c,rfl,bq,bM⟩:=ak hd;clear hr hd;obtain⟨X,hX⟩:=acJ w.heap.size;obtain⟨n,hn⟩:=acJ l.length;rw[hn] at HD bq bM |-;have da:=jq hn;clear hn;obtain⟨W1,am⟩:=acJ (w.alloc (.cells #[.slice A n c] 76));have aI:Below w.heap.size w W1:=by rw[<-am];exact (vQ _ _).alloc (bQ _) _
 have iS:W1.heap.size=w.heap.size+1:=by rw[<-am];simp
 have k1:W1.cell? ⟨X,0,none⟩=some (.slice A n c):=by rw[<-am,<-hX];simp[go_sem]
 rw[hX] at aI iS HD |-;have aV:=jq aI;clear aI;go_enter func27,ntmps27;go_wp2_with fail;clear am hX;go_loopw [3] (λi wr=>∃ (k:Nat),k<=n/\k<=411/\i = .int .i64 k/\Hid (Below (X+1) W1 wr)/\Hid (∀ x∈l.take k,Np.ye x)) (λi _=>n - (intOf i).toNat)
 case atStart=>exact⟨0,jQ _,jQ _,rfl,jq (vQ _ _),jq (by simp)⟩
 case round=>
  obtain⟨k,hk,Zb,rfl,bG,HQ⟩:=hrel;have HB:=acZ aV bG.out;have q1:=aaJ bG.out k1;have an:=bG.out.size;by_cases ab:k<n
  ·by_cases XQ:k<=410
   ·have JK:decide ((k:Int)<=410)=true:=adK;obtain⟨x,aa⟩:∃ x,l[k]?=some x:=⟨_,aQ (by rw[da.out];exact ab)⟩;obtain⟨b,o,s,z,dA,nd,dc,gA,ns,gc,rfl,bB,aw,eW,fV,gL,aK,nS,mg,uy,hce⟩:=yU (HD.out.keep mq HB.out) aa;have f0:=hce 0 _ rfl;have f1:=hce 1 _ rfl;have f2:=hce 2 _ rfl;have f3:=hce 3 _ rfl;have f4:=hce 4 _ rfl;have f5:=hce 5 _ rfl;have f6:=hce 6 _ rfl;simp only[Nat.add_zero] at f0;have KI:x.zone.length=z.size:=by rw[<-fV,bn]
    have HF:Hid (¬ (nd<=20/\ns<=20/\z.size<=100)->r=false):=jq (λh=>by
     rw[<-HR.out];refine Np.aF λq=>h ?_
     have:=q.2 x (gQ aa)
     unfold Np.ye at this;rw[mg,uy,KI] at this;exact this)
    have qW:Hid (nd<=20/\ns<=20/\z.size<=100->∀ x∈l.take (k+1),Np.ye x):=jq (λh y hy=>by
     obtain⟨hl,he⟩:=cQ.1 aa;rw[fQ hl,he] at hy;rcases List.mem_append.1 hy with hy | hy
     ·exact HQ.out y hy
     ·rw[List.mem_singleton] at hy;subst hy;unfold Np.ye;rw[mg,uy,KI];exact h)
    have bJ:(0:Int)<=(k:Int):=by omega
    have bI:(k:Int)<(n:Int):=by omega
    have aY:Hid (∀ o,Below X w (wr.alloc o)):=jq (λo=>HB.out.alloc (by have:=HB.out.size;omega) _);have Tm:Hid (∀ o,Below (X+1) W1 (wr.alloc o)):=jq (λo=>bG.out.alloc (by omega) _);obtain⟨zs,KK⟩:=acJ z.size;have No:=jq KK;rw[KK] at HF qW;clear aa aw eW fV gL aK nS mg uy hce KI KK;by_cases g1:20<nd
    ·have d1:decide (20<(nd:Int))=true:=adK;have HX:=jq (HF.out (by omega));clear g1;go_wp2_with fail;go_ret;exact⟨ag HX.out.symm,aY.out _⟩
    ·have d1:decide (20<(nd:Int))=false:=adJ;by_cases g2:20<ns
     ·have d2:decide (20<(ns:Int))=true:=adK;have HX:=jq (HF.out (by omega));clear g1 g2;go_wp2_with fail;go_ret;exact⟨ag HX.out.symm,aY.out _⟩
     ·have d2:decide (20<(ns:Int))=false:=adJ;by_cases g3:100<zs
      ·have d3:decide (100<(z.size:Int))=true:=uQ (by have:=No.out;omega);have HX:=jq (HF.out (by omega));clear g1 g2 g3;go_wp2_with fail;go_ret;exact⟨ag HX.out.symm,aY.out _⟩
      ·have d3:decide (100<(z.size:Int))=false:=tQ (by have:=No.out;omega);have HX:=jq (qW.out (by omega));clear g1 g2 g3;go_wp2_with fail;go_roundw
       case rel=>exact⟨k+1,by omega,by omega,by go_num,jq (Tm.out _),HX⟩
       case measure=>simp[intOf] <;> omega
   ·have JK:decide ((k:Int)<=410)=false:=adJ;have lJ:decide ((n:Int)<=410)=false:=adJ;have HX:Hid (r=false):=jq (by rw[<-HR.out];exact Np.aF λq=>by have:=q.1;rw[da.out] at this;omega);go_wp2_with fail;go_ret;exact⟨ag HX.out.symm,HB.out⟩
  ·have Hz:Hid (∀ x∈l,Np.ye x):=jq (by have:=HQ.out;rwa [kQ (by rw[da.out];omega)] at this);by_cases J4:n<=410
   ·have lJ:decide ((n:Int)<=410)=true:=adK;have HX:Hid (r=true):=jq (by rw[<-HR.out];exact Np.bh ⟨by rw[da.out];exact J4,Hz.out⟩);go_wp2_with fail;go_ret;exact⟨ag HX.out.symm,HB.out⟩
   ·have lJ:decide ((n:Int)<=410)=false:=adJ;have HX:Hid (r=false):=jq (by rw[<-HR.out];exact Np.aF λq=>by have:=q.1;rw[da.out] at this;omega);go_wp2_with fail;go_ret;exact⟨ag HX.out.symm,HB.out⟩
theorem axX(v:Value)(l:List Np.Ent22)(w:World)(hd:SlR lE 7 w w.heap.size v l) :
 Calls prog 34 #[.agg #[v]] w λe w'=>e = .returned (.bool (Np.yes (Np.VCache l)))/\Below w.heap.size w w':=by
 obtain⟨r,hr⟩:=acJ (Np.yes (Np.VCache l));rw[hr];have cI:Hid (¬ Np.VCache l->r=false):=jq (λh=>by rw[<-hr];exact Np.aF h);have nC:Hid (Np.VCache l->r=true):=jq (λh=>by rw[<-hr];exact Np.bh h);have iB:=jq hd;obtain⟨A,c,rfl,bq,bM⟩:=ak hd;obtain⟨n,hn⟩:=acJ l.length;rw[hn] at iB bq bM |-;have da:=jq hn;clear hr hd hn;obtain⟨X,hX⟩:=acJ w.heap.size;obtain⟨W1,am⟩:=acJ (w.alloc (.cells #[.slice A n c] 76));have aI:Below w.heap.size w W1:=by rw[<-am];exact (vQ _ _).alloc (bQ _) _
 have iS:W1.heap.size=X+1:=by rw[<-am,<-hX];simp
 have k1:W1.cell? ⟨X,0,none⟩=some (.slice A n c):=by rw[<-am,<-hX];simp[go_sem]
 rw[hX] at aI iB |-;have HD:Hid (SlR lE 7 w X (.slice A n c) l):=iB;have aV:=jq aI;clear aI;go_enter func34,ntmps34;go_wp2_with fail;clear am hX;go_loopw [3] (λi wr=>∃ k:Nat,k<=n/\i = .int .i64 k/\Hid (Below (X+1) W1 wr)/\Hid (Np.pz (l.take k))) (λi _=>n - (intOf i).toNat)
 case atStart=>exact⟨0,jQ _,rfl,jq (vQ _ _),jq Np.OA⟩
 case round=>
  obtain⟨k,hk,rfl,bG,HV⟩:=hrel;have an:=bG.out.size;have HB:=acZ aV bG.out;have q1:=aaJ bG.out k1;by_cases ab:k<n
  ·obtain⟨x,aa⟩:∃ x,l[k]?=some x:=⟨_,aQ (by rw[da.out];exact ab)⟩;obtain⟨b,o,s,z,dA,dn,dc,gA,gn,gc,rfl,bB,aw,eW,fV,gL,aK,nS,ku,nR,hce⟩:=yU (HD.out.keep mq HB.out) aa;have du:=jq (λh1 h2=>Np.OB aa HV.out h1 h2);have fZ:=jq (λh=>Np.Oz (l:=l) aa h);have iY:Hid (Np.fH x=(s.data.toList,x.signed.set.type,z.data.toList)):=jq (by unfold Np.fH;rw[aw,fV]);have lC:Hid (x=⟨⟨⟨s.data.toList,x.signed.set.type,x.signed.set.life,x.signed.set.data⟩,x.signed.sigs⟩,z.data.toList,x.til⟩):=jq (by rw[aw,fV]);have f0:=hce 0 _ rfl;have f1:=hce 1 _ rfl;have f2:=hce 2 _ rfl;have f3:=hce 3 _ rfl;have f4:=hce 4 _ rfl;have f5:=hce 5 _ rfl;have f6:=hce 6 _ rfl;simp only[Nat.add_zero] at f0;have im:=jq aK;have nk:=jq nS;have gR:=jq (And.intro eW gL);have yp:=jq hce;have bJ:(0:Int)<=(k:Int):=by omega
   have bI:(k:Int)<(n:Int):=by omega
   obtain⟨ty,dT⟩:=acJ x.signed.set.type;obtain⟨lf,iw⟩:=acJ x.signed.set.life;obtain⟨til,mO⟩:=acJ x.til;obtain⟨dd,hdd⟩:=acJ x.signed.set.data;obtain⟨gg,B9⟩:=acJ x.signed.sigs;rw[dT] at iY lC f1 yp;rw[iw] at lC f2 yp;rw[mO] at lC f6 yp;rw[hdd] at lC im;rw[B9] at lC nk;clear aa aw fV eW gL aK nS ku nR hce dT iw mO hdd B9;go_wp2_with fail;refine (axJ s z gR.out.1 gR.out.2 ty lf til dA dn dc gA gn gc dd gg wr (im.out.more cu (by omega)) (nk.out.more cY (by omega))).mono ?_;rw[<-lC.out];rintro e w3 ⟨rfl,hb⟩;have eR:=hb.size;have ar:=acZ bG hb;have It:=acZ aV ar.out;replace q1:=aaJ hb q1;have bi:Hid (eh w3 b (o+k * 7) [.string s,.int .i64 ty,.int .i64 lf,.slice dA dn dc,.slice gA gn gc,.string z,.int .i64 til]):=jq (λj v hj=>aaJ hb (yp.out j v hj));clear hb f0 f1 f2 f3 f4 f5 f6;by_cases ew:Np.EntOk x
   case neg=>
    rw[Np.aF ew];have HF:=jq (cI.out (λh=>ew (fZ.out (Np.zR.1 h).2).1));clear ew;go_wp2_with fail;go_ret;exact⟨ag HF.out.symm,It.out⟩
   case pos=>
    rw[Np.bh ew];have bH:=jq ew;clear ew;go_wp2_with fail;clear ab hk;go_loopw [4] (λi wr=>∃ q:Nat,q<=k/\i = .int .i64 q/\Hid (Below (X+1) w3 wr)/\Hid (Np.fH x∉(l.take q).map Np.fH)/\w3.heap.size<=wr.heap.size) (λi _=>k - (intOf i).toNat)
    case atStart=>exact⟨0,jQ _,rfl,jq (vQ _ _),jq (by simp),bQ _⟩
    case round=>
     obtain⟨q,hq,rfl,iA,qU,kC⟩:=hrel;have DP:=acZ It iA.out;have To:=jq (ar.out.trans iA.out);have r1:=aaJ iA.out q1;by_cases pb:q<k
     ·obtain⟨y,dR⟩:∃ y,l[q]?=some y:=⟨_,aQ (by rw[da.out];omega)⟩;obtain⟨b',o',s',z',dB,em,ec,gB,hm,hc',hA',uf,Qx,ZX,QQ,adX,_,_,_,_,kr⟩:=yU (HD.out.keep mq DP.out) dR;simp only[Option.some.injEq,Addr.mk.injEq,and_true] at hA';obtain⟨rfl,rfl⟩:=hA';have e0:=kr 0 _ rfl;have e1:=kr 1 _ rfl;have e2:=kr 2 _ rfl;have e3:=kr 3 _ rfl;have e4:=kr 4 _ rfl;have e5:=kr 5 _ rfl;have e6:=kr 6 _ rfl;have vv:Hid (eh wr b (o+k * 7) [.string s,.int .i64 ty,.int .i64 lf,.slice dA dn dc,.slice gA gn gc,.string z,.int .i64 til]):=jq (λj v hj=>aaJ iA.out (bi.out j v hj));have f0:=vv.out 0 _ rfl;have f1:=vv.out 1 _ rfl;have f2:=vv.out 2 _ rfl;have f3:=vv.out 3 _ rfl;have f4:=vv.out 4 _ rfl;have f5:=vv.out 5 _ rfl;have f6:=vv.out 6 _ rfl;simp only[Nat.add_zero] at f0 e0;have Uj:Hid (Np.fH y=(s'.data.toList,y.signed.set.type,z'.data.toList)):=jq (by unfold Np.fH;rw[Qx,QQ]);obtain⟨tb,qu⟩:=acJ (decide (Np.fH y=Np.fH x));have AU:=jq qu;have bL:∀ g:bk wr,Calls prog 78 #[.agg #[.string s',.int .i64 y.signed.set.type,.int .i64 y.signed.set.life,.slice dB em ec,.slice gB hm hc',.string z',.int .i64 y.til],.agg #[.string s,.int .i64 ty,.int .i64 lf,.slice dA dn dc,.slice gA gn gc,.string z,.int .i64 til]] g.w λe w'=>e = .returned (.bool tb)/\Below g.w.heap.size g.w w':=λg=>by
       rw[<-qu,Uj.out,iY.out];exact axQ s' z' s z _ _ _ _ _ _ _ _ _ _ _ _ _ _ _ _ _ _ g.w
      have HC:=jq bL;have k9:∀ (g:bk wr) (p:Addr),p.block<wr.heap.size->g.w.cell? p=wr.cell? p:=λg p h=>g.cell p h;have dJ:b<X:=bB;have ay:b<wr.heap.size:=by omega
      have l6:X<wr.heap.size:=by omega
      have jT:(0:Int)<=(q:Int):=by omega
      have zr:(q:Int)<(n:Int):=by omega
      have bC:Hid (tb=false->Np.fH x∉(l.take (q+1)).map Np.fH):=jq (λh hm=>by
       obtain⟨hl,he⟩:=cQ.1 dR;rw[fQ hl,he,List.map_append] at hm;rcases List.mem_append.1 hm with hm | hm
       ·exact qU.out hm
       ·rw[List.map_singleton,List.mem_singleton] at hm;exact (of_decide_eq_false (AU.out.trans h)) hm.symm)
      have Uz:Hid (tb=true->r=false):=jq (λh=>cI.out (λhv=>(fZ.out (Np.zR.1 hv).2).2 (by
       rw[<-of_decide_eq_true (AU.out.trans h)];exact List.mem_map.2 ⟨y,gQ (i:=q) (by rw[List.getElem?_take,Qb pb];exact dR),rfl⟩)))
      have vG:Hid (∀ g:bk wr,Below (X+1) w3 g.w/\w3.heap.size<=g.w.heap.size):=jq (λg=>⟨iA.out.trans (g.below.adZ),by have:=g.size;omega⟩);clear dR Qx ZX QQ adX kr qu bL
      cases tb with
      | true=>
       have HF:=jq (Uz.out rfl);go_wp2_with fail;refine a0Z ?_
       repeat (go_big_quiet_step ((go_at_call 78;exact Calls.grow_of (HC.out _))))
       refine wpQuiet_nil ?_;rintro _ ⟨g,rfl⟩;go_wp2_with fail;go_ret;exact⟨ag HF.out.symm,It.out.trans ((vG.out g).1.adZ)⟩
      | false=>
       have cO:=jq (bC.out rfl);go_wp2_with fail;refine a0Z ?_
       repeat (go_big_quiet_step ((go_at_call 78;exact Calls.grow_of (HC.out _))))
       refine wpQuiet_nil ?_;rintro _ ⟨g,rfl⟩;go_wp2_with fail;go_roundw
       case rel=>exact⟨q+1,by omega,by go_num,jq (vG.out g).1,cO,(vG.out g).2⟩
       case measure=>simp[intOf] <;> omega
     ·have cO:Hid (Np.fH x∉(l.take k).map Np.fH):=jq (by have:=qU.out;rwa [show q=k by omega] at this);have Ip:Hid (Np.pz (l.take (k+1))):=jq (du.out bH.out cO.out);go_wp2_with fail;go_roundw
      case rel=>exact⟨k+1,by omega,by go_num,To,Ip⟩
      case measure=>simp[intOf] <;> omega
  ·have AZ:Hid (Np.pz l):=jq (by have:=HV.out;rwa [kQ (by rw[da.out];omega)] at this);by_cases Ei:n<=400
   ·have lJ:decide ((n:Int)<=400)=true:=adK;have HF:=jq (nC.out (Np.zR.2 ⟨by rw[da.out];exact Ei,AZ.out⟩));go_wp2_with fail;go_ret;exact⟨ag HF.out.symm,HB.out⟩
   ·have lJ:decide ((n:Int)<=400)=false:=adJ;have HF:=jq (cI.out (λk=>by have:=k.few;have:=da.out;omega));go_wp2_with fail;go_ret;exact⟨ag HF.out.symm,HB.out⟩
end
end Go.Proofs.YtfnopgdcaanaiaaGreatDoor
