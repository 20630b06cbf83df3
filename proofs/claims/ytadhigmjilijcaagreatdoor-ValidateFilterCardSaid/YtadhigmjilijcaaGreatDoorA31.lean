/- No condition. -/
import Derived.Test.YtadhigmjilijcaaGreatDoorA28
set_option linter.all false
set_option maxRecDepth 100000
set_option maxHeartbeats 8000000
namespace Go.Proofs.YtadhigmjilijcaaGreatDoor
open Go.Proofs.Tryz
section
open Go.RowKit Go.Shelf
attribute [local go_sem] Oper.semAt_some
structure Np.FilOk(zone qn:List UInt8)(qt:Int)(a:Np.Ans)(got:List Np.Signed)(er:Int):Prop where
 none:er≠0->got = []
 part:er=0->got.Sublist a.sets
 under:er=0->∀ x∈got,Np.aT x.set.name zone=true
 again:er=0->Np.fO zone qn qt ⟨a.kind,got,a.cut⟩=(got,0)
theorem Np.Xu(zone qn:List UInt8)(qt:Int)(a:Np.Ans):Np.FilOk zone qn qt a (Np.fO zone qn qt a).1 (Np.fO zone qn qt a).2:=by
 have zu:=λh=>Np.Xv (zone:=zone) (qn:=qn) (qt:=qt) (a:=a) h;refine⟨?_,?_,?_,zu⟩
 ·unfold Np.fO;split
  ·intro _;rfl
  ·split
   ·intro _;rfl
   ·intro h;exact absurd rfl h
 ·unfold Np.fO;split
  ·intro h;simp at h
  ·split
   ·intro _;exact List.nil_sublist _
   ·intro _;exact List.filter_sublist
 ·unfold Np.fO;split
  ·intro h;simp at h
  ·split
   ·intro _ x hx;simp at hx
   ·intro _ x hx;have h:=(List.mem_filter.1 hx).2;unfold Np.lD at h;simp only[Bool.and_eq_true] at h;exact h.1
theorem Np.aDX{α:Type}{x:α}{l:List α}{m:List α}{i:Nat}(h:(x::l).Sublist (m.drop i)):∃ y,m[i]?=some y/\((x≠y/\(x::l).Sublist (m.drop (i+1)))\/(x=y/\l.Sublist (m.drop (i+1)))):=by
 by_cases hi:i<m.length
 ·refine⟨m[i],aQ hi,?_⟩;rw[sQ hi] at h;by_cases dE:x=m[i]
  ·refine .inr ⟨dE,?_⟩
   cases h with
   | cons _ h=>exact (List.sublist_cons_self _ _).trans h
   | cons_cons _ h=>exact h
  ·refine .inl ⟨dE,?_⟩
   cases h with
   | cons _ h=>exact h
   | cons_cons _ h=>exact absurd rfl dE
 ·rw[List.drop_eq_nil_of_le (by omega)] at h
  cases h
theorem aiK(z qn:ByteArray)(hz:z.size<=140737488355328)(cA:qn.size<=140737488355328)(qt:Int)(a:Np.Ans)(e:List Value)(w:World)(hR:bL w w.heap.size)(he:lZ w w.heap.size e a) :
 Calls prog 7 #[.string z,.agg #[.string qn,.int .i64 qt],.agg e.toArray] w λe w'=>e = .returned (.bool true)/\Below w.heap.size w w':=by
 have HE:=jq he;obtain⟨A,N,C,cut,rfl,hN,_,zk,hv,hc,hcs⟩:=he.form;have HN:=jq hN;obtain⟨X,hX⟩:=aRZ w.heap.size;obtain⟨ak,kP⟩:=aRZ a.kind;rw[kP] at HE |-;have mG:=jq kP;obtain⟨w1,ah⟩:=aRZ (w.alloc (.cells #[.string qn,.int .i64 qt] 27));obtain⟨w2,aX⟩:=aRZ (w1.alloc (.cells #[.int .i64 ak,.slice A N C,.string cut] 29));have z1:w1.heap.size=X+1:=by rw[<-ah,<-hX];simp
 have z2:w2.heap.size=X+1+1:=by rw[<-aX,<-z1];simp
 have b1:Below w.heap.size w w1:=by rw[<-ah];exact aj _ _
 have b2:Below w1.heap.size w1 w2:=by rw[<-aX];exact aj _ _
 have b12:=b1.trans (b2.aSZ);have xW:Hid (w2.heap[X]?=some (.cells [Value.string qn,.int .i64 qt].toArray 27 (0,0))):=jq ((b2.block X (by omega)).trans (by rw[<-ah,<-hX];exact heap_alloc_new _ _));have rL:Hid (w2.heap[X+1]?=some (.cells [Value.int .i64 ak,.slice A N C,.string cut].toArray 29 (0,0))):=jq (by rw[<-aX,<-z1];exact heap_alloc_new _ _);have HR:=jq ((hR.keep b12).more b12.size);have x7:=jq (vo _ _ _ _ _ (vm _ _ _ _ _ HE.out b12) b12.size);have yz:=jq (hv.later az bf b12);have HC:=jq (And.intro hc hcs);have HB:=jq b12;clear he hv hR b1 b2 b12 hN hc kP HE;go_enter func7,ntmps7;go_wp2_with fail;clear ah;go_wp2_with fail;clear aX;go_wp2_with fail;refine (GC w2 HR.out).mono ?_;rintro e w3 ⟨rfl,ai⟩;have z3:X+1+1<=w3.heap.size:=by have:=ai.size;omega
 have am:=aRQ HB ai;have qx:=jq ((ai.block X (by omega)).trans xW.out);have Bi:=jq ((ai.block (X+1) (by omega)).trans rL.out);have gN:=jq ((HR.out.keep ai).more ai.size);have R0:=jq (vo _ _ _ _ _ (vm _ _ _ _ _ x7.out ai) ai.size);have BO:=jq (yz.out.later az bf ai);clear ai;have a1:=ae _ Bi.out 1 _ rfl;go_wp2_with fail;refine (Fy _ a.sets w3 BO.out).mono ?_;rintro e w4 ⟨fb,rfl,rfl,sT⟩
 cases fb with
 | false=>
  go_wp2_with fail;go_ret;exact⟨rfl,am.out⟩
 | true=>
  have pp:=jq (sT rfl);clear sT;by_cases h40:N<=40
  case neg=>
   have h4:(40:Int)<(N:Int):=by omega
   have MW:decide ((40:Int)<(N:Int))=true:=uQ h4;go_wp2_with fail;go_ret;exact⟨rfl,am.out⟩
  have h4:¬ (40:Int)<(N:Int):=by omega
  have MW:decide ((40:Int)<(N:Int))=false:=tQ h4;have q0:=ae _ qx.out 0 _ rfl;have q1:=ae _ qx.out 1 _ rfl;have a0:=ae _ Bi.out 0 _ rfl;have a2:=ae _ Bi.out 2 _ rfl;go_wp2_with fail;clear a0 a1 a2 q0 q1 h4 MW;refine (yV z qn hz cA qt a [.int .i64 ak,.slice A N C,.string cut] w3 gN.out R0.out (λy hy=>⟨yQ (pp.out.2 y hy).1 (by decide),yQ (pp.out.2 y hy).2 (by decide)⟩)).mono ?_;have hp:=Np.Xu z.data.toList qn.data.toList qt a;obtain⟨⟨got,er⟩,hx⟩:∃ x,Np.fO z.data.toList qn.data.toList qt a=x:=⟨_,rfl⟩;rw[hx] at hp |-;clear hx;rintro e w4 ⟨gA,gn,gc,rfl,hg,av⟩;dsimp only at hp hg |-;have iZ:got.length=gn:=xI hg;have z4:X+1+1<=w4.heap.size:=by have:=av.size;omega
  have aF:=aRQ am av;have JK:=jq ((av.block X (by omega)).trans qx.out);have Bj:=jq ((av.block (X+1) (by omega)).trans Bi.out);have gi:=jq ((gN.out.keep av).more av.size);have UC:=jq (BO.out.later az bf av);have JR:=jq hg;clear av hg;by_cases her:er=0
  case neg=>
   obtain rfl:got = []:=hp.none her;obtain rfl:gn=0:=iZ.symm;have cp:(er == 0)=false:=by simpa using her
   have cP:(er != 0)=true:=by simpa using her
   clear hp iZ;go_wp2_with fail;go_ret;exact⟨rfl,aF.out⟩
  subst her;have tL:=jq (hp.part rfl);have Tm:=jq (hp.under rfl);have tK:=jq (hp.again rfl);have yd:=jq iZ;have kV:gn<=40:=by have:=tL.out.length_le;have:=HN.out;omega
  clear hp iZ;go_wp2_with fail;go_loopw [10,44] (λiv kv wr=>∃ k i:Nat,k<=gn/\i<=N/\iv = .int .i64 i/\kv = .int .i64 k/\Hid (Below w4.heap.size w4 wr)/\Hid ((got.drop k).Sublist (a.sets.drop i))) (λ_ kv _=>gn - (intOf kv).toNat)
  case atStart=>exact⟨0,0,jQ _,jQ _,rfl,rfl,jq (vQ _ _),jq tL.out⟩
  case round=>
   obtain⟨k,i,hk,hi,rfl,rfl,dI,TV⟩:=hrel;obtain⟨ws,rfl⟩:=aRX wr;have zs:X+1+1<=ws.heap.size:=by have:=dI.out.size;omega
   by_cases af:k<gn
   ·obtain⟨y,gI⟩:∃ y,got[k]?=some y:=⟨_,aQ (by rw[yd.out];exact af)⟩;have TW:Hid ((y::got.drop (k+1)).Sublist (a.sets.drop i)):=jq (by
     obtain⟨hl,he⟩:=cQ.1 gI;have h:=TV.out;rw[sQ hl,he] at h;exact h)
    obtain⟨b,o,c2,s,dv,sv,hA,dB,_,dq,eX,bZ,cx,e0,e1,e2,e3,e4⟩:=mE (JR.out.later az bf dI.out) gI;simp only[Value.slice.injEq] at hA;obtain⟨rfl,-,rfl⟩:=hA;obtain⟨dA,dn,dc,rfl,_,_,_⟩:=aM bZ;obtain⟨gA2,gn2,gc2,rfl,_,_,_⟩:=aM cx;have Vv:Hid (Np.aT y.set.name z.data.toList=true):=jq (Tm.out y (gQ gI));have dS:(0:Int)<=(k:Int):=by omega
    have dp:(k:Int)<(gn:Int):=by omega
    obtain⟨w6,cS⟩:=aRZ (ws.alloc (.cells #[.string s,.int .i64 y.set.type,.int .i64 y.set.life,.slice dA dn dc,.slice gA2 gn2 gc2] 44));obtain⟨P,hP⟩:=aRZ ws.heap.size;have bh:Below ws.heap.size ws w6:=by rw[<-cS];exact aj _ _
    have z6:w6.heap.size=P+1:=by rw[<-cS,<-hP];simp
    have ef:Hid (w6.heap[P]?=some (.cells [Value.string s,.int .i64 y.set.type,.int .i64 y.set.life,.slice dA dn dc,.slice gA2 gn2 gc2].toArray 44 (0,0))):=jq (by rw[<-cS,<-hP];exact heap_alloc_new _ _);have gh:=jq (bZ.later br bB bh);have iO:=jq (cx.later cK da bh);have gj:=jq (And.intro dq eX);have aU:=jq (dI.out.trans (bh.mono dI.out.size));have rm:ws.heap.size<=w6.heap.size:=by omega
    clear bh dq eX cx bZ gI
    try rw[hP] at cS
    go_wp2_with fail;clear cS e0 e1 e2 e3 e4
    try rw[hP]
    go_loopw [10] (λiv wr=>∃ i:Nat,i<=N/\iv = .int .i64 i/\Hid (Below w6.heap.size w6 wr)/\Hid ((y::got.drop (k+1)).Sublist (a.sets.drop i))) (λiv _=>N - (intOf iv).toNat)
    case atStart=>exact⟨i,hi,rfl,jq (vQ _ _),TW⟩
    case round=>
     obtain⟨i,hi,rfl,iI,yr⟩:=hrel;obtain⟨wi,rfl⟩:=aRX wr;have zi:P+1<=wi.heap.size:=by have:=iI.out.size;omega
     obtain⟨x,Du,Zs⟩:=Np.aDX yr.out;have hin:i<N:=by rw[<-HN.out];exact (cQ.1 Du).1
     have lH:=jq (aU.out.trans (iI.out.mono aU.out.size));obtain⟨b9,o9,c9,s1,dv1,sv1,MX,zz,_,OS,_,GA,G6,f0,f1,f2,f3,f4⟩:=mE (UC.out.later az bf lH.out) Du;simp only[Value.slice.injEq] at MX;obtain⟨rfl,-,rfl⟩:=MX;obtain⟨dA1,dn1,dc1,rfl,_,_,_⟩:=aM GA;obtain⟨gA1,gn1,gc1,rfl,_,_,_⟩:=aM G6;have c1:=ae _ ((lH.out.block (X+1) (by omega)).trans Bj.out) 1 _ rfl;have vG:=jq ((iI.out.block P (by omega)).trans ef.out);have p0:=ae _ vG.out 0 _ rfl;have p1:=ae _ vG.out 1 _ rfl;have p2:=ae _ vG.out 2 _ rfl;have p3:=ae _ vG.out 3 _ rfl;have p4:=ae _ vG.out 4 _ rfl;have lX:X+1<wi.heap.size:=by omega
     have lP:P<wi.heap.size:=by omega
     have c1':∀ g:bA wi,g.w.cell? ⟨X+1,1,none⟩=_:=λg=>(g.cell ⟨X+1,1,none⟩ lX).trans c1;have p0':∀ g:bA wi,g.w.cell? ⟨P,0,none⟩=_:=λg=>(g.cell ⟨P,0,none⟩ lP).trans p0;have p1':∀ g:bA wi,g.w.cell? ⟨P,1,none⟩=_:=λg=>(g.cell ⟨P,1,none⟩ lP).trans p1;have p2':∀ g:bA wi,g.w.cell? ⟨P,2,none⟩=_:=λg=>(g.cell ⟨P,2,none⟩ lP).trans p2;have p3':∀ g:bA wi,g.w.cell? ⟨P,3,none⟩=_:=λg=>(g.cell ⟨P,3,none⟩ lP).trans p3;have p4':∀ g:bA wi,g.w.cell? ⟨P,4,none⟩=_:=λg=>(g.cell ⟨P,4,none⟩ lP).trans p4;have f0':∀ g:bA wi,g.w.cell? ⟨b9,o9+i * 5,none⟩=_:=λg=>(g.cell ⟨b9,o9+i * 5,none⟩ zz).trans f0;have f1':∀ g:bA wi,g.w.cell? ⟨b9,o9+i * 5+1,none⟩=_:=λg=>(g.cell ⟨b9,o9+i * 5+1,none⟩ zz).trans f1;have f2':∀ g:bA wi,g.w.cell? ⟨b9,o9+i * 5+2,none⟩=_:=λg=>(g.cell ⟨b9,o9+i * 5+2,none⟩ zz).trans f2;have f3':∀ g:bA wi,g.w.cell? ⟨b9,o9+i * 5+3,none⟩=_:=λg=>(g.cell ⟨b9,o9+i * 5+3,none⟩ zz).trans f3;have f4':∀ g:bA wi,g.w.cell? ⟨b9,o9+i * 5+4,none⟩=_:=λg=>(g.cell ⟨b9,o9+i * 5+4,none⟩ zz).trans f4;have wS:(0:Int)<=(i:Int):=by omega
     have GI:(i:Int)<(a.sets.length:Int):=by have:=HN.out;omega
     have Y6:decide ((i:Int)<(a.sets.length:Int))=true:=uQ GI;have vE:Hid (∀ g:bA wi,Calls prog 25 #[.agg #[.string s1,.int .i64 x.set.type,.int .i64 x.set.life,.slice dA1 dn1 dc1,.slice gA1 gn1 gc1],.agg #[.string s,.int .i64 y.set.type,.int .i64 y.set.life,.slice dA dn dc,.slice gA2 gn2 gc2]] g.w λe w'=>e = .returned (.bool (decide (x=y)))/\Below g.w.heap.size g.w w'):=jq (λg=>
      Qj x y s1 s OS gj.out.1 _ _ _ _ g.w (GA.later br bB g.below) (G6.later cK da g.below) ((gh.out.later br bB iI.out).later br bB g.below) ((iO.out.later cK da iI.out).later cK da g.below))
     clear GA G6 OS c1 p0 p1 p2 p3 p4 f0 f1 f2 f3 f4;rcases Zs with ⟨hne,aP⟩ | ⟨heq,aP⟩
     ·have E0:=jq aP;rw[tQ (λh=>hne h.symm)] at vE;clear aP Du hne;go_wp2_with fail;refine aTX ?_
      repeat (go_big_quiet_step (fail))
      go_big_quiet_step ((go_at_call 25;exact Calls.grow_of (vE.out _)))
      repeat (go_big_quiet_step (fail))
      refine wpQuiet_nil ?_;rintro _ ⟨g,rfl⟩;have qv:=jq (iI.out.trans (g.below.mono iI.out.size));go_wp2_with fail;go_roundw
      case rel=>exact⟨i+1,by omega,by go_num,qv,E0⟩
      ·simp[intOf]<;>omega
     ·have E0:=jq aP;have hdd:decide (x=y)=true:=uQ heq.symm;rw[hdd] at vE;clear aP Du hdd heq;go_wp2_with fail;refine aTX ?_
      repeat (go_big_quiet_step (fail))
      go_big_quiet_step ((go_at_call 25;exact Calls.grow_of (vE.out _)))
      repeat (go_big_quiet_step (fail))
      refine wpQuiet_nil ?_;rintro _ ⟨g,rfl⟩;obtain⟨w7,eF⟩:=aRZ g.w;have bm:Below wi.heap.size wi w7:=by rw[<-eF];exact g.below
      rw[eF];have Em:=jq (lH.out.trans (bm.mono lH.out.size));have c7:=ae _ ((Em.out.block (X+1) (by omega)).trans Bj.out) 1 _ rfl;have d7:=ae _ ((bm.block P (by omega)).trans vG.out) 0 _ rfl;have hne:((i:Int) == (a.sets.length:Int))=false:=by have:=HN.out;simp;omega
      clear bm eF Y6;go_wp2_with fail;clear c7 d7;have hu:=Vv.out;unfold Np.aT at hu;simp only[Bool.and_eq_true] at hu;have s6:s.size<=1000:=by have h:=Np.km hu.1;rw[<-gj.out.1,be] at h;omega
      have vf:z.size<=1000:=by have h:=Np.km hu.2.1;rw[be] at h;omega
      have rn:z.data.toList≠[]:=λh=>by rw[h] at hu;exact absurd hu.2.1 (by decide)
      refine (P0 s z s6 vf w7).mono ?_;rintro e w8 ⟨rfl,cu⟩;rw[Np.vg rn,gj.out.1,hu.2.2];have cT:=jq (Em.out.trans (cu.mono Em.out.size));clear cu hu s6 vf rn;go_wp2_with fail;go_roundw
      case rel=>exact⟨k+1,i+1,by omega,by omega,by go_num,by go_num,cT,E0⟩
      ·simp[intOf]<;>omega
   ·obtain rfl:k=gn:=by omega
    have aK:=jq (aF.out.trans (dI.out.mono aF.out.size));have c0:=ae _ ((dI.out.block (X+1) (by omega)).trans Bj.out) 0 _ rfl;have c2:=ae _ ((dI.out.block (X+1) (by omega)).trans Bj.out) 2 _ rfl;have q0:=ae _ ((dI.out.block X (by omega)).trans JK.out) 0 _ rfl;have q1:=ae _ ((dI.out.block X (by omega)).trans JK.out) 1 _ rfl;have tG:=jq (JR.out.later az bf dI.out);go_wp2_with fail;clear c0 c2 q0 q1;refine (yV z qn hz cA qt ⟨a.kind,got,a.cut⟩ [.int .i64 ak,.slice gA k gc,.string cut] ws ((gi.out.keep dI.out).more dI.out.size) ⟨_,cut,tG.out,HC.out.1,HC.out.2,by rw[mG.out]⟩ (λy hy=>⟨yQ (pp.out.2 y (tL.out.subset hy)).1 (by decide),yQ (pp.out.2 y (tL.out.subset hy)).2 (by decide)⟩)).mono ?_;rw[tK.out];rintro e w9 ⟨hA9,zW,qW,rfl,GF,bM⟩;dsimp only at GF |-;have cZ:=jq (aK.out.trans (bM.mono aK.out.size));have Sm:=jq GF;have Sn:=jq (tG.out.later az bf bM);clear GF bM;go_wp2_with fail;refine (DU _ _ got w9 Sm.out Sn.out).mono ?_;rintro e w10 ⟨rfl,hb⟩;have qu:=jq (cZ.out.trans (hb.mono cZ.out.size));clear hb;go_wp2_with fail;go_ret;exact⟨rfl,qu.out⟩
end
section
open Go.ChangeShapes Go.WideShapes Go.ChangeAt Go.RowKit Go.Deep
theorem arJ:kJ prog 29 3 lZ:=by
 intro H enc W base spare held fuel cs d ps h hw;obtain⟨hl,hf⟩:=xE underlying29 h hw;have hl':cs.length=3:=hl.trans (by kernel_rfl);clear hl
 match cs,hl' with
 | [c0,c1,c2],_=>
  obtain⟨n0,d0,p0,t0,w0⟩:=hf 0 _ rfl;have t0':DataW.trod enc prog W base spare held n0 3 (([c0,c1,c2].drop 0).take (prog.cellsOf 3))=some (d0,p0):=t0;rw[kK] at t0';have u0:DataW.trod enc prog W base spare held n0 3 [c0]=some (d0,p0):=t0';obtain⟨n1,d1,p1,t1,w1⟩:=hf 1 _ rfl;have t1':DataW.trod enc prog W base spare held n1 22 (([c0,c1,c2].drop 1).take (prog.cellsOf 22))=some (d1,p1):=t1;rw[Wg] at t1';have u1:DataW.trod enc prog W base spare held n1 22 [c1]=some (d1,p1):=t1';obtain⟨n2,d2,p2,t2,w2⟩:=hf 2 _ rfl;have t2':DataW.trod enc prog W base spare held n2 9 (([c0,c1,c2].drop 2).take (prog.cellsOf 9))=some (d2,p2):=t2;rw[yL] at t2';have u2:DataW.trod enc prog W base spare held n2 9 [c2]=some (d2,p2):=t2';obtain⟨_,x0,eO,wf0⟩:=oW underlying3 H enc W base spare held n0 _ _ _ u0 w0;obtain rfl:c0 = .int .i64 x0:=by simpa using eO
  obtain⟨_,x1,v1,d6,G4⟩:=In H enc W base spare held n1 _ _ _ u1 w1;obtain rfl:c1=v1:=by simpa using d6
  obtain⟨_,_,s2,_,eN,my⟩:=AE underlying9 H enc W base spare held n2 _ _ _ u2 w2;obtain rfl:c2 = .string s2:=by simpa using my
  exact⟨rfl,⟨x0,x1,s2.data.toList⟩,_,s2,G4,rfl,eN,rfl⟩
end
end Go.Proofs.YtadhigmjilijcaaGreatDoor
