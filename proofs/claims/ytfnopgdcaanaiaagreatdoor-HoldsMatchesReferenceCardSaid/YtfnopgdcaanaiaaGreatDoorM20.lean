/- Parts of the proof. No condition. -/
import Derived.Test.YtfnopgdcaanaiaaGreatDoorM14
set_option linter.all false
set_option maxRecDepth 100000
set_option maxHeartbeats 8000000
namespace Go.Proofs.YtfnopgdcaanaiaaGreatDoor
open Go.Proofs.Tryz
section
open Go.RowKit
theorem N6(s z:ByteArray)(ty lf til:Int)(dA:Option Addr)(dn dc:Nat)(gA:Option Addr)(gn gc:Nat)(w:World) :
 Calls prog 147 #[.agg #[.string s,.int .i64 ty,.int .i64 lf,.slice dA dn dc,.slice gA gn gc,.string z,.int .i64 til]] w (a0X w.heap.size w (.agg #[.string s,.int .i64 ty,.string z])):=by
 go_enter func147,ntmps147;go_wp2_with fail;refine bodyPost_ret (v:=.agg #[.string s,.int .i64 ty,.string z]) (by simp[results,results147,go_sem]) rfl ⟨rfl,?_⟩
 first
  | exact ((vQ _ _).alloc (bQ _) _).alloc (by simp) _
  | exact ((((((vQ _ _).alloc (bQ _) _).alloc (by simp) _).setCell (by simp) _).setCell (by simp) _).setCell (by simp) _)
theorem Wr(t:Int)(w:World):Calls prog 220 #[.int .i64 t] w λe w'=>e = .returned (.bool (decide (0<=t)&&decide (t<=100000)))/\w'=w:=by
 by_cases h1:0<=t
 ·have jJ:decide (0<=t)=true:=uQ h1;go_enter func220,ntmps220;go_wp2_with fail;exact bodyPost_ret (v:=.bool (decide (t<=100000))) (by simp[results,results220,go_sem]) rfl ⟨by first | rfl | (rw[jJ];rfl),rfl⟩
 ·have jJ:decide (0<=t)=false:=tQ h1;go_enter func220,ntmps220;go_wp2_with fail;exact bodyPost_ret (v:=.bool false) (by simp[results,results220,go_sem]) rfl ⟨by first | rfl | (rw[jJ];rfl),rfl⟩
theorem Wo(s z:ByteArray)(hs:s.size<=140737488355328)(hz:z.size<=140737488355328)(ty lf til:Int)(dA:Option Addr)(dn dc:Nat)(gA:Option Addr)(gn gc:Nat)(d:List Np.Datum)(g:List Np.Sig)(w:World)(hR:jo w w.heap.size)(hd:SlR bR 3 w w.heap.size (.slice dA dn dc) d)(hg:SlR cS 6 w w.heap.size (.slice gA gn gc) g) :
 Calls prog 146 #[.agg #[.string s,.int .i64 ty,.int .i64 lf,.slice dA dn dc,.slice gA gn gc,.string z,.int .i64 til]] w λe w'=>e = .returned (.bool (Np.yes (Np.EntOk ⟨⟨⟨s.data.toList,ty,lf,d⟩,g⟩,z.data.toList,til⟩)))/\Below w.heap.size w w':=by
 obtain⟨r,hr⟩:=acJ (Np.yes (Np.EntOk ⟨⟨⟨s.data.toList,ty,lf,d⟩,g⟩,z.data.toList,til⟩));rw[hr];have cI:Hid (¬ Np.EntOk ⟨⟨⟨s.data.toList,ty,lf,d⟩,g⟩,z.data.toList,til⟩->r=false):=jq (λh=>by rw[<-hr];exact Np.aF h);have nC:Hid (Np.EntOk ⟨⟨⟨s.data.toList,ty,lf,d⟩,g⟩,z.data.toList,til⟩->r=true):=jq (λh=>by rw[<-hr];exact Np.bh h);have HS:=jq hs;have HZ:=jq hz;have HD:=jq hd;have HG:=jq hg;have HR:=jq hR;have kK:Hid (d.length=dn):=jq (FX hd);have pI:Hid (g.length=gn):=jq (FX hg);clear hr hs hz hd hg hR;obtain⟨X,hX⟩:=acJ w.heap.size;obtain⟨w1,ah⟩:=acJ ((w.alloc (.cells #[.string s,.int .i64 ty,.int .i64 lf,.slice dA dn dc,.slice gA gn gc,.string z,.int .i64 til] 83)).alloc (.cells #[.string s,.int .i64 ty,.int .i64 lf,.slice dA dn dc] 26));have bd:w1.heap.size=X+2:=by rw[<-ah,<-hX];simp
 have hb:Below w.heap.size w w1:=by rw[<-ah];exact ((vQ _ _).alloc (bQ _) _).alloc (by simp) _
 have az:Hid (ls w1 X [.string s,.int .i64 ty,.int .i64 lf,.slice dA dn dc,.slice gA gn gc,.string z,.int .i64 til]):=jq (by
  rw[<-ah,<-hX];exact (iq [.string s,.int .i64 ty,.int .i64 lf,.slice dA dn dc,.slice gA gn gc,.string z,.int .i64 til] 83 rfl rfl).keep ((vQ _ _).alloc (bQ _) _) (by simp))
 have mv:Hid (ls w1 (X+1) [.string s,.int .i64 ty,.int .i64 lf,.slice dA dn dc]):=jq (by
  have:=iq [.string s,.int .i64 ty,.int .i64 lf,.slice dA dn dc] 26 (w:=w.alloc (.cells #[.string s,.int .i64 ty,.int .i64 lf,.slice dA dn dc,.slice gA gn gc,.string z,.int .i64 til] 83)) (X:=X+1) (by simp[hX]) ah
  exact this)
 have av:=jq hb;clear hb;have p0:=az.out 0 _ rfl;have p1:=az.out 1 _ rfl;have p2:=az.out 2 _ rfl;have p3:=az.out 3 _ rfl;have p4:=az.out 4 _ rfl;have p5:=az.out 5 _ rfl;have p6:=az.out 6 _ rfl;have q0:=mv.out 0 _ rfl;have q1:=mv.out 1 _ rfl;have q2:=mv.out 2 _ rfl;have q3:=mv.out 3 _ rfl;go_enter func146,ntmps146;go_wp2_with fail;clear ah;clear p0 p1 p2 p3 p4 p5 p6 q0 q1 q2 q3;refine (VU s z HS.out HZ.out w1).mono ?_;rintro e w2 ⟨rfl,hb⟩;have aN:=hb.size;have aZ:=jq (az.out.keep hb (by omega));have mw:=jq (mv.out.keep hb (by omega));have ai:=acZ av hb;clear hb;have p5:=aZ.out 5 _ rfl;have p6:=aZ.out 6 _ rfl;have p4:=aZ.out 4 _ rfl;have q0:=mw.out 0 _ rfl;have q1:=mw.out 1 _ rfl;have q2:=mw.out 2 _ rfl;have q3:=mw.out 3 _ rfl;by_cases hin:Np.sm s.data.toList z.data.toList
 case neg=>
  rw[Np.aF hin];have HF:=jq (cI.out (λk=>hin (Np.lI.1 k).1.1));clear hin;go_wp2_with fail;go_ret;exact⟨ag HF.out.symm,ai.out⟩
 case pos=>
  rw[Np.bh hin];have fZ:=jq hin;clear hin;by_cases t1:til<1
  ·have d1:decide (til<1)=true:=uQ t1;have HF:=jq (cI.out (λk=>by have:=(Np.lI.1 k).1.2.1;dsimp only at this;omega));clear t1;go_wp2_with fail;go_ret;exact⟨ag HF.out.symm,ai.out⟩
  ·have d1:decide (til<1)=false:=tQ t1;by_cases t2:20100001<til
   ·have d2:decide (20100001<til)=true:=uQ t2;have HF:=jq (cI.out (λk=>by have:=(Np.lI.1 k).1.2.2;dsimp only at this;omega));clear t1 t2;go_wp2_with fail;go_ret;exact⟨ag HF.out.symm,ai.out⟩
   ·have d2:decide (20100001<til)=false:=tQ t2;have AV:Hid (Np.IG til):=jq ⟨by omega,by omega⟩;clear t1 t2;by_cases hn:dn=0
    ·subst hn;have lV:Hid (d = []):=jq (rQ kK.out);have oG:Hid (Np.Bj ⟨⟨⟨s.data.toList,ty,lf,d⟩,g⟩,z.data.toList,til⟩->r=true):=jq (λk=>nC.out (Np.lI.2 ⟨⟨fZ.out,AV.out⟩,.inl ⟨lV.out,k⟩⟩));have qR:Hid (¬ Np.Bj ⟨⟨⟨s.data.toList,ty,lf,d⟩,g⟩,z.data.toList,til⟩->r=false):=jq (λh=>cI.out (λk=>by
      rcases (Np.lI.1 k).2 with h2 | h2
      ·exact h h2.2
      ·exact h2.1 lV.out))
     by_cases t3:1<=ty
     case neg=>
      have d3:decide (1<=ty)=false:=tQ t3;have HF:=jq (qR.out (λk=>t3 k.1.1));clear t3;go_wp2_with fail;go_ret;exact⟨ag HF.out.symm,ai.out⟩
     case pos=>
      have d3:decide (1<=ty)=true:=uQ t3;by_cases t4:ty<=8
      case neg=>
       have d4:decide (ty<=8)=false:=tQ t4;have HF:=jq (qR.out (λk=>t4 k.1.2));clear t3 t4;go_wp2_with fail;go_ret;exact⟨ag HF.out.symm,ai.out⟩
      case pos=>
       have d4:decide (ty<=8)=true:=uQ t4;have dF:Hid (1<=ty/\ty<=8):=jq ⟨t3,t4⟩;clear t3 t4;obtain⟨lb,zj⟩:=acJ (decide (0<=lf)&&decide (lf<=100000));have iC:=jq zj;go_wp2_with fail;refine (Wr lf w2).mono ?_;rw[iC.out];rintro e w3 ⟨rfl,fj⟩;rw[fj];clear fj zj w3
       cases lb with
       | false=>
        have HF:=jq (qR.out (λk=>by
         have h1:=iC.out;have h2:=k.2.1;dsimp only at h2;rw[uQ h2.1,uQ h2.2] at h1
         cases h1))
        go_wp2_with fail;go_ret;exact⟨ag HF.out.symm,ai.out⟩
       | true=>
        have yw:Hid (0<=lf/\lf<=100000):=jq (by
         have h1:=iC.out;simp only[Bool.and_eq_true,Qa] at h1;exact h1)
        by_cases eH:gn=0
        ·subst eH;have HF:=jq (oG.out ⟨dF.out,yw.out,rQ pI.out⟩);go_wp2_with fail;go_ret;exact⟨ag HF.out.symm,ai.out⟩
        ·have n1:((gn:Int) == 0)=false:=by simpa using eH
         have n2:(gn == 0)=false:=by simpa using eH
         have n3:decide ((gn:Int)=0)=false:=adJ;have HF:=jq (qR.out (λk=>eH (by rw[<-pI.out];have:=k.2.2;dsimp only at this;rw[this];rfl)));go_wp2_with fail;go_ret;refine⟨ag ?_,ai.out⟩
         first | exact HF.out.symm | rfl | exact n1 | exact n2 | exact n3 | simp[eH]
    ·have n1:((dn:Int) == 0)=false:=by simpa using hn
     have n2:(dn == 0)=false:=by simpa using hn
     have n3:decide ((dn:Int)=0)=false:=adJ;have lV:Hid (d≠[]):=jq (λh=>hn (by rw[<-kK.out,h];rfl));have oG:Hid (r=(Np.cZ ⟨s.data.toList,ty,lf,d⟩&&Np.yes (Np.eK z.data.toList g))):=jq (by
      by_cases h1:Np.cZ ⟨s.data.toList,ty,lf,d⟩=true
      ·by_cases h2:Np.eK z.data.toList g
       ·rw[h1,Np.bh h2];exact nC.out (Np.lI.2 ⟨⟨fZ.out,AV.out⟩,.inr ⟨lV.out,h1,h2⟩⟩)
       ·rw[h1,Np.aF h2];refine cI.out (λk=>?_);rcases (Np.lI.1 k).2 with h3 | h3
        ·exact lV.out h3.1
        ·exact h2 h3.2.2
      ·rw[Bool.not_eq_true] at h1;rw[h1];refine cI.out (λk=>?_);rcases (Np.lI.1 k).2 with h3 | h3
       ·exact lV.out h3.1
       ·have h4:=h3.2.1;dsimp only at h4;rw[h1] at h4
        cases h4)
     clear hn;obtain⟨vb,mo⟩:=acJ (Np.cZ ⟨s.data.toList,ty,lf,d⟩);have nA:=jq mo;clear mo;go_wp2_with fail;refine (K5 s HS.out ty lf _ d w2 ((HR.out.keep ai.out).more ai.out.size) ((HD.out.keep bV ai.out).more cu ai.out.size)).mono ?_;rw[nA.out];rintro e w3 ⟨rfl,hb⟩;have bi:=jq (aZ.out.keep hb (by omega));have ar:=acZ ai hb;clear hb p4 p5 p6 q0 q1 q2 q3;have p4:=bi.out 4 _ rfl;have p5:=bi.out 5 _ rfl
     cases vb with
     | false=>
      go_wp2_with fail;go_ret;exact⟨ag (by rw[oG.out,nA.out];rfl),ar.out⟩
     | true=>
      go_wp2_with fail;refine (Wq z _ g w3 ((HG.out.keep cg ar.out).more cY ar.out.size)).mono ?_;rintro e w4 ⟨rfl,hb⟩;have aU:=jq (ar.out.trans (hb.mono ar.out.size));clear hb;go_wp2_with fail;go_ret;exact⟨ag (by rw[oG.out,nA.out];rfl),aU.out⟩
end
section
open Go.RowKit Go.MapKept
theorem WS(v:Value)(l:List Np.Ent22)(w:World)(hR:jo w w.heap.size)(hd:SlR lE 7 w w.heap.size v l) :
 Calls prog 76 #[.agg #[v]] w λe w'=>e = .returned (.bool (Np.yes (Np.VCache l)))/\Below w.heap.size w w':=by
 obtain⟨r,hr⟩:=acJ (Np.yes (Np.VCache l));rw[hr];have cI:Hid (¬ Np.VCache l->r=false):=jq (λh=>by rw[<-hr];exact Np.aF h);have nC:Hid (Np.VCache l->r=true):=jq (λh=>by rw[<-hr];exact Np.bh h);have iB:=jq hd;have gz:=jq hR;obtain⟨A,c,rfl,_,_⟩:=ak hd;obtain⟨n,hn⟩:=acJ l.length;rw[hn] at iB |-;have da:=jq hn;clear hr hR hd hn;obtain⟨X,hX⟩:=acJ w.heap.size;rw[hX] at gz iB;have HD:Hid (SlR lE 7 w X (.slice A n c) l):=iB;by_cases Ei:400<n
 ·have gu:decide (400<(n:Int))=true:=adK;have HF:=jq (cI.out (λk=>by have:=k.few;have:=da.out;omega));clear Ei;go_enter func76,ntmps76;go_wp2_with fail;go_ret;exact⟨ag HF.out.symm,(vQ _ _).alloc (bQ _) _⟩
 ·have gu:decide (400<(n:Int))=false:=adJ;have eP:n<=400:=by omega
  have G7:Hid (l.length<=400):=jq (by rw[da.out];omega);obtain⟨w1,ah⟩:=acJ ((w.alloc (.cells #[.slice A n c] 76)).alloc (.map #[] 0));have av:Hid (Below X w w1):=jq (by rw[<-ah,<-hX];exact ((vQ _ _).alloc (bQ _) _).alloc (by simp) _);have Dy:Hid (kP (X+1) [] w1):=jq (by
   rw[<-ah,<-hX];have h0:=kP.made (w.alloc (.cells #[.slice A n c] 76));simpa using h0)
  have bd:w1.heap.size=X+2:=by rw[<-ah,<-hX];simp
  have k0:w1.cell? ⟨X,0,none⟩=some (.slice A n c):=by rw[<-ah,<-hX];simp[go_sem]
  have mf:∀ (w:World),(Instr.makeMap 219 none).run prog w = .ok (.map (some w.heap.size)) (w.alloc (.map #[] 0)):=λw=>by
   simp[Instr.makeMap,Result.andThen]
  clear Ei;go_enter func76,ntmps76;go_wp2_with fail;clear mf k0 gu
  try rw[ah]
  clear ah
  try rw[hX]
  go_loopw [14] (λi wr=>∃ k:Nat,k<=n/\i = .int .i64 k/\Hid (Below X w wr)/\X+1<wr.heap.size/\Hid (kP (X+1) (((l.take k).map Np.fH).map λy=>(y,Value.bool true)) wr)/\Hid (Np.pz (l.take k))) (λi _=>n - (intOf i).toNat)
  case atStart=>exact⟨0,jQ _,rfl,av,by omega,Dy,jq Np.OA⟩
  case round=>
   obtain⟨k,hk,rfl,HB,dK,HM,HV⟩:=hrel;have an:=HB.out.size;by_cases ab:k<n
   ·obtain⟨x,aa⟩:∃ x,l[k]?=some x:=⟨_,aQ (by rw[da.out];exact ab)⟩;obtain⟨b,o,s,z,dA,dn,dc,gA,gn,gc,rfl,bB,aw,eW,fV,gL,aK,nS,ku,nR,hce⟩:=yU (HD.out.keep mq HB.out) aa;have du:=jq (λh1 h2=>Np.OB aa HV.out h1 h2);have fZ:=jq (λh=>Np.Oz (l:=l) aa h);have HT:Hid ((l.take (k+1)).map Np.fH=(l.take k).map Np.fH ++ [Np.fH x]):=jq (by
     obtain⟨hl,he⟩:=cQ.1 aa;rw[fQ hl,he,List.map_append];rfl)
    have iY:Hid (Np.fH x=(s.data.toList,x.signed.set.type,z.data.toList)):=jq (by unfold Np.fH;rw[aw,fV]);have lC:Hid (x=⟨⟨⟨s.data.toList,x.signed.set.type,x.signed.set.life,x.signed.set.data⟩,x.signed.sigs⟩,z.data.toList,x.til⟩):=jq (by rw[aw,fV]);have f0:=hce 0 _ rfl;have f1:=hce 1 _ rfl;have f2:=hce 2 _ rfl;have f3:=hce 3 _ rfl;have f4:=hce 4 _ rfl;have f5:=hce 5 _ rfl;have f6:=hce 6 _ rfl;simp only[Nat.add_zero] at f0;have im:=jq aK;have nk:=jq nS;have gR:=jq (And.intro eW gL);have bJ:(0:Int)<=(k:Int):=by omega
    have bI:(k:Int)<(n:Int):=by omega
    obtain⟨E,hE⟩:=acJ wr.heap.size;obtain⟨w2,aj⟩:=acJ (wr.alloc (.cells #[.string s,.int .i64 x.signed.set.type,.int .i64 x.signed.set.life,.slice dA dn dc,.slice gA gn gc,.string z,.int .i64 x.til] 83));have aN:w2.heap.size=E+1:=by rw[<-aj,<-hE];simp
    have ac:Below wr.heap.size wr w2:=by rw[<-aj];exact (vQ _ _).alloc (bQ _) _
    have aZ:Hid (ls w2 E [.string s,.int .i64 x.signed.set.type,.int .i64 x.signed.set.life,.slice dA dn dc,.slice gA gn gc,.string z,.int .i64 x.til]):=jq (iq _ _ hE aj);have ai:=acZ HB ac;have ei:Hid (Below X wr w2):=jq (ac.adZ);have Mz:=jq (HM.out.keep ac dK);obtain⟨ty,dT⟩:=acJ x.signed.set.type;obtain⟨lf,iw⟩:=acJ x.signed.set.life;obtain⟨til,mO⟩:=acJ x.til;obtain⟨dd,hdd⟩:=acJ x.signed.set.data;obtain⟨gg,B9⟩:=acJ x.signed.sigs;rw[dT] at aZ iY lC f1;rw[iw] at aZ lC f2;rw[mO] at aZ lC f6;rw[hdd] at lC im;rw[B9] at lC nk;rw[dT,iw,mO] at aj;have q0:=aZ.out 0 _ rfl;have q1:=aZ.out 1 _ rfl;have q2:=aZ.out 2 _ rfl;have q3:=aZ.out 3 _ rfl;have q4:=aZ.out 4 _ rfl;have q5:=aZ.out 5 _ rfl;have q6:=aZ.out 6 _ rfl;clear aa aw fV eW gL aK nS ku nR hce ac dT iw mO hdd B9 HM;go_wp2_with fail
    try rw[hE]
    clear aj f0 f1 f2 f3 f4 f5 f6;refine (Wo s z gR.out.1 gR.out.2 ty lf til dA dn dc gA gn gc dd gg w2 ((gz.out.keep ai.out).more (by omega)) ((im.out.keep bV ei.out).more cu (by omega)) ((nk.out.keep cg ei.out).more cY (by omega))).mono ?_;rw[<-lC.out];rintro e w3 ⟨rfl,hb⟩;have eR:=hb.size;have ar:=acZ ai hb;have oH:=jq (Mz.out.keep hb (by omega));have bi:=jq (aZ.out.keep hb (by omega));clear hb q0 q1 q2 q3 q4 q5 q6;by_cases ew:Np.EntOk x
    case neg=>
     rw[Np.aF ew];have HF:=jq (cI.out (λh=>ew (fZ.out (Np.zR.1 h).2).1));clear ew;go_wp2_with fail;go_ret;exact⟨ag HF.out.symm,by rw[hX];exact ar.out⟩
    case pos=>
     rw[Np.bh ew];have bH:=jq ew;clear ew;have q0:=bi.out 0 _ rfl;have q1:=bi.out 1 _ rfl;have q2:=bi.out 2 _ rfl;have q3:=bi.out 3 _ rfl;have q4:=bi.out 4 _ rfl;have q5:=bi.out 5 _ rfl;have q6:=bi.out 6 _ rfl;go_wp2_with fail;refine (N6 s z ty lf til dA dn dc gA gn gc w3).mono ?_;rintro e w4 ⟨rfl,hb⟩;have fl:=hb.size;have aU:=acZ ar hb;have yx:=jq (oH.out.keep hb (by omega));have bZ:=jq (bi.out.keep hb (by omega));have er:(Instr.lookup 219 (.map (some (X+1))) (.agg #[.string s,.int .i64 ty,.string z]) false).run prog w4 = .ok (.bool (decide ((s.data.toList,ty,z.data.toList)∈(l.take k).map Np.fH))) w4:=by
      have:=aHJ w4 219 4 underlying219 (X+1) _ yx.out (s.data.toList,ty,z.data.toList) (.bool false) (by kernel_rfl)
      rw[CU] at this;exact this
     rw[<-iY.out] at er;clear hb q0 q1 q2 q3 q4 q5 q6;by_cases hm:Np.fH x∈(l.take k).map Np.fH
     case pos=>
      rw[uQ hm] at er;have HF:=jq (cI.out (λh=>(fZ.out (Np.zR.1 h).2).2 hm));clear hm;go_wp2_with fail;go_ret;exact⟨ag HF.out.symm,by rw[hX];exact aU.out⟩
     case neg=>
      rw[tQ hm] at er;have qS:=jq hm;clear hm;have q0:=bZ.out 0 _ rfl;have q1:=bZ.out 1 _ rfl;have q2:=bZ.out 2 _ rfl;have q3:=bZ.out 3 _ rfl;have q4:=bZ.out 4 _ rfl;have q5:=bZ.out 5 _ rfl;have q6:=bZ.out 6 _ rfl;go_wp2_with fail;refine (N6 s z ty lf til dA dn dc gA gn gc w4).mono ?_;rintro e w5 ⟨rfl,hb⟩;have ik:=hb.size;have bN:=acZ aU hb;have qQ:=jq (yx.out.keep hb (by omega));have EV:(((l.take k).map Np.fH).map λy=>(y,Value.bool true)).lookup (s.data.toList,ty,z.data.toList)=none:=by
       rw[<-iY.out];exact Fu _ _ qS.out
      obtain⟨wU,rA,nY,cG⟩:=aIJ w5 219 4 underlying219 (X+1) _ qQ.out (s.data.toList,ty,z.data.toList) (.bool true) (.inl EV);rw[Qb EV] at nY;replace rA:(Instr.mapUpdate 219 (.map (some (X+1))) (.agg #[.string s,.int .i64 ty,.string z]) (.bool true)).run prog w5 = .ok () wU:=rA;have oI:Hid (kP (X+1) (((l.take (k+1)).map Np.fH).map λy=>(y,Value.bool true)) wU):=jq (by
       rw[HT.out,List.map_append,iY.out];exact nY)
      have tC:Hid (Below X w wU):=jq (bN.out.trans (cG.below (by omega)));have Fm:X+1<wU.heap.size:=by rw[cG.size];omega
      have Ip:Hid (Np.pz (l.take (k+1))):=jq (du.out bH.out qS.out);clear hb er EV nY cG q0 q1 q2 q3 q4 q5 q6;go_wp2_with fail;go_roundw
      case rel=>exact⟨k+1,by omega,by go_num,tC,Fm,oI,Ip⟩
      case measure=>simp[intOf] <;> omega
   ·have AZ:Hid (Np.pz l):=jq (by have:=HV.out;rwa [kQ (by rw[da.out];omega)] at this);have HF:=jq (nC.out (Np.zR.2 ⟨G7.out,AZ.out⟩));go_wp2_with fail;go_ret;exact⟨ag HF.out.symm,by rw[hX];exact HB.out⟩
end
end Go.Proofs.YtfnopgdcaanaiaaGreatDoor
