/- Parts of the proof. No condition. -/
import Derived.Test.YtfnopgdcaanaiaaGreatDoorH40
set_option linter.all false
set_option maxRecDepth 100000
set_option maxHeartbeats 8000000
namespace Go.Proofs.YtfnopgdcaanaiaaGreatDoor
open Go.Proofs.Tryz
section
open Go.RowKit
theorem Cz{α:Type}{R:World->Nat->List Value->α->Prop}{sz:Nat}{w:World}{B n c:Nat}{A:Option Addr}{xs:List α}(h:SlR R sz w B (.slice A n c) xs):xs.length=n:=by
 obtain⟨A',c',h1,_⟩:=al h;simp only[Value.slice.injEq] at h1;exact h1.2.1.symm
def Np.xE(h:Np.Hist):Prop:=Np.me h/\Np.VHist h
theorem N8(e:List Value)(h:Np.Hist)(w:World)(hh:ed w w.heap.size e h):Calls prog 14 #[.agg e.toArray] w λe w'=>e = .returned (.bool (Np.yes (Np.xE h)))/\Below w.heap.size w w':=by
 obtain⟨A1,n1,c1,A2,n2,c2,s,ty,lf,A3,n3,c3,A4,n4,c4,dr,st,rfl,-,-,-,-,-⟩:=vI hh;have HH:=jq hh;obtain⟨X,hX⟩:∃ X,w.heap.size=X:=⟨_,rfl⟩;obtain⟨w1,ah⟩:∃ w1,w.alloc (.cells #[.slice A1 n1 c1,.slice A2 n2 c2,.string s,.int .i64 ty,.int .i64 lf,.slice A3 n3 c3,.slice A4 n4 c4,.int .i64 dr,.int .i64 st] 29)=w1:=⟨_,rfl⟩;have bj:w1.heap.size=X+1:=by rw[<-ah,<-hX];simp
 have aw:Hid (Below w.heap.size w w1):=jq (by rw[<-ah];exact (vQ _ _).alloc (bQ _) _);have aY:=jq (ku _ _ hX ah);have uh:Hid (ed w1 w1.heap.size [.slice A1 n1 c1,.slice A2 n2 c2,.string s,.int .i64 ty,.int .i64 lf,.slice A3 n3 c3,.slice A4 n4 c4,.int .i64 dr,.int .i64 st] h):=jq (kg _ _ _ _ _ (kf _ _ _ _ _ HH.out aw.out) aw.out.size);clear hh;have k0:=aY.out 0 _ rfl;have k1:=aY.out 1 _ rfl;have k2:=aY.out 2 _ rfl;have k3:=aY.out 3 _ rfl;have k4:=aY.out 4 _ rfl;have k5:=aY.out 5 _ rfl;have k6:=aY.out 6 _ rfl;have k7:=aY.out 7 _ rfl;have k8:=aY.out 8 _ rfl;go_enter func14,ntmps14;go_wp2_with fail;clear ah;refine (Sm _ h w1 uh.out).mono ?_;rintro e w2 ⟨rfl,hb⟩;have aJ:=hb.size;have aj:=jq hb;have bE:=jq (aY.out.keep hb (by omega));have sf:=jq (kg _ _ _ _ _ (kf _ _ _ _ _ uh.out hb) hb.size);clear hb;replace k0:=bE.out 0 _ rfl;replace k1:=bE.out 1 _ rfl;replace k2:=bE.out 2 _ rfl;replace k3:=bE.out 3 _ rfl;replace k4:=bE.out 4 _ rfl;replace k5:=bE.out 5 _ rfl;replace k6:=bE.out 6 _ rfl;replace k7:=bE.out 7 _ rfl;replace k8:=bE.out 8 _ rfl;by_cases hF:Np.me h
 ·have HF:=jq hF;rw[Np.bB hF];clear hF;go_wp2_with fail;refine (X6 _ h HF.out.use.fewH w2 sf.out).mono ?_;rintro e w3 ⟨rfl,hb⟩;have ar:Hid (Below w.heap.size w w3):=jq (aw.out.trans ((aj.out.trans (hb.mono (by omega))).mono aw.out.size));clear hb k0 k1 k2 k3 k4 k5 k6 k7 k8;go_wp2_with fail;refine bodyPost_ret (v:=.bool (Np.yes (Np.VHist h))) (by simp[results,results14,go_sem]) rfl ⟨?_,ar.out⟩;rw[Np.ql (show Np.xE h↔Np.VHist h from ⟨λk=>k.2,λk=>⟨HF.out,k⟩⟩)]
 ·rw[Np.aF hF];have gq:=jq (aw.out.trans (aj.out.mono aw.out.size));go_wp2_with fail;exact bodyPost_ret (v:=.bool false) (by simp[results,results14,go_sem]) rfl ⟨by rw[Np.aF (λk:Np.xE h=>hF k.1)],gq.out⟩
theorem Mm(l:List Np.Signed)(x:Np.Signed)(sx:ByteArray)(oF:sx.data.toList=x.set.name)(dA:Option Addr)(dn dc:Nat)(gA:Option Addr)(gn gc:Nat)(A:Option Addr)(n c:Nat)(bl:n<=1000000)(w:World)(hl:SlR bh 5 w w.heap.size (.slice A n c) l)(hd:SlR bn 3 w w.heap.size (.slice dA dn dc) x.set.data)(hg:SlR dj 6 w w.heap.size (.slice gA gn gc) x.sigs) :
 Calls prog 18 #[.slice A n c,.agg #[.string sx,.int .i64 x.set.type,.int .i64 x.set.life,.slice dA dn dc,.slice gA gn gc]] w λe w'=>e = .returned (.bool (decide (x∈l)))/\Below w.heap.size w w':=by
 have hn:l.length=n:=Cz hl;obtain⟨X,hX⟩:∃ X,w.heap.size=X:=⟨_,rfl⟩;obtain⟨w1,ah⟩:∃ w1,w.alloc (.cells #[.string sx,.int .i64 x.set.type,.int .i64 x.set.life,.slice dA dn dc,.slice gA gn gc] 42)=w1:=⟨_,rfl⟩;have hb:Below w.heap.size w w1:=by rw[<-ah];exact (vQ _ _).alloc (bQ _) _
 have bj:w1.heap.size=X+1:=by rw[<-ah,<-hX];simp
 have aq:=jq hb;have ji:=jq (ku _ _ hX ah);have HD:=jq (hd.later de eN hb);have HG:=jq (hg.later ep gp hb);have HL:=jq (hl.later aX cj hb);have HN:=jq hn;have lk:n<=c:=by
  obtain⟨A',c',h1,h2,_⟩:=al hl;simp only[Value.slice.injEq] at h1;omega
 clear hb hd hg hl hn;go_enter func18,ntmps18;go_wp2_with fail
 try clear ah
 go_loopw [9] (λi wr=>∃ k:Nat,k<=n/\i = .int .i64 k/\Hid (x∉l.take k)/\Hid (Below w1.heap.size w1 wr)) (λi _=>n - (intOf i).toNat)
 case atStart=>exact⟨0,jQ _,rfl,jq (by simp),jq (vQ _ _)⟩
 case round=>
  obtain⟨k,hk,rfl,jk,HB⟩:=hrel;have an:=HB.out.size;by_cases aa:k<n
  ·obtain⟨y,ab⟩:∃ y,l[k]?=some y:=⟨_,aQ (by rw[HN.out];exact aa)⟩;obtain⟨b2,o2,c2,sy,dv2,sv2,fl,Kn,_,eU,_,nw,mC,f0,f1,f2,f3,f4⟩:=eq (HL.out.later aX cj HB.out) ab;simp only[Value.slice.injEq] at fl;obtain⟨rfl,-,rfl⟩:=fl;have mj:=jq eU;have Dd:=jq nw;have D6:=jq mC;have qs:Hid (l.take (k+1)=l.take k ++ [y]):=jq (by
    obtain⟨q1,q2⟩:=cQ.1 ab;rw[fQ q1,q2])
   have DC:=jq (gQ ab);obtain⟨dA2,dn2,dc2,rfl⟩:=vL nw;obtain⟨gA2,gn2,gc2,rfl⟩:=vL mC;obtain⟨wc,lp⟩:∃ w',wr.alloc (.cells #[.string sy,.int .i64 y.set.type,.int .i64 y.set.life,.slice dA2 dn2 dc2,.slice gA2 gn2 gc2] 42)=w':=⟨_,rfl⟩;have qR:Below wr.heap.size wr wc:=by rw[<-lp];exact (vQ _ _).alloc (bQ _) _
   have mU:=jq (ku _ _ rfl lp);have fH:=jq (HB.out.trans (qR.mono an));have nU:=jq qR;have wn:=jq (ji.out.keep fH.out (by omega));have bO:(0:Int)<=(k:Int):=by omega
   have bM:(k:Int)<(n:Int):=by omega
   have g0:=wn.out 0 _ rfl;have g1:=wn.out 1 _ rfl;have g2:=wn.out 2 _ rfl;have g3:=wn.out 3 _ rfl;have g4:=wn.out 4 _ rfl;have y0:=mU.out 0 _ rfl;have y1:=mU.out 1 _ rfl;have y2:=mU.out 2 _ rfl;have y3:=mU.out 3 _ rfl;have y4:=mU.out 4 _ rfl;clear ab eU nw mC qR;go_wp2_with fail
   try clear lp
   refine (YK y x sy sx mj.out oF _ _ _ _ wc (Dd.out.later de eN nU.out) (D6.out.later ep gp nU.out) (HD.out.later de eN fH.out) (HG.out.later ep gp fH.out)).mono ?_;rintro e wd ⟨rfl,jx⟩;have mS:=jq (fH.out.trans (jx.mono fH.out.size));have LV:=nU.out.size;clear jx g0 g1 g2 g3 g4 y0 y1 y2 y3 y4;by_cases bR:y=x
   ·rw[uQ bR];have HE:Hid (Below w.heap.size w wd):=jq (aq.out.trans (mS.out.mono (by omega)));have HT:Hid (decide (x∈l)=true):=jq (uQ (bR ▸ DC.out));clear bR;go_wp2_with fail;exact bodyPost_ret (v:=.bool true) (by simp[results,results18,go_sem]) rfl ⟨by rw[HT.out],HE.out⟩
   ·rw[tQ bR];have Ak:Hid (x∉l.take (k+1)):=jq (by
     rw[qs.out,List.mem_append,List.mem_singleton];rintro (h | h)
     ·exact jk.out h
     ·exact bR h.symm)
    clear bR;go_wp2_with fail;go_roundw
    case rel=>exact⟨k+1,by omega,by go_num,Ak,mS⟩
    case measure=>simp[intOf] <;> omega
  ·have HE:Hid (Below w.heap.size w wr):=jq (aq.out.trans (HB.out.mono (by omega)));have HT:Hid (decide (x∈l)=false):=jq (tQ (λh=>jk.out (by rw[kQ (by rw[HN.out];omega)];exact h)));go_wp2_with fail;exact bodyPost_ret (v:=.bool false) (by simp[results,results18,go_sem]) rfl ⟨by rw[HT.out],HE.out⟩
theorem Yd(n:ByteArray)(hn:n.size<=140737488355328)(ty:Int)(w:World) :
 Calls prog 15 #[.agg #[.string n,.int .i64 ty]] w λe w'=>e = .returned (.bool (Np.aC n.data.toList&&(decide (1<=ty)&&decide (ty<=8))))/\Below w.heap.size w w':=by
 obtain⟨X,hX⟩:∃ X,w.heap.size=X:=⟨_,rfl⟩;obtain⟨w1,ah⟩:∃ w1,w.alloc (.cells #[.string n,.int .i64 ty] 31)=w1:=⟨_,rfl⟩;have hb:Below w.heap.size w w1:=by rw[<-ah];exact (vQ _ _).alloc (bQ _) _
 have bj:w1.heap.size=X+1:=by rw[<-ah,<-hX];simp
 have aq:=jq hb;have k0:w1.cell? ⟨X,0,none⟩=some (.string n):=by rw[<-ah,<-hX];simp[go_sem]
 have k1:w1.cell? ⟨X,1,none⟩=some (.int .i64 ty):=by rw[<-ah,<-hX];simp[go_sem]
 clear hb;go_enter func15,ntmps15;go_wp2_with fail
 try clear ah
 refine (tR n hn w1).mono ?_;rintro e w2 ⟨rfl,hb⟩;replace k1:=(cl hb (by omega)).trans k1;have aj:=jq (aq.out.trans (hb.mono (by omega)));clear hb k0;obtain⟨r,hr⟩:∃ r,Np.aC n.data.toList=r:=⟨_,rfl⟩;have HR:=jq hr;rw[hr];clear hr
 cases r with
 | false=>
  go_wp2_with fail;exact bodyPost_ret (v:=.bool false) (by simp[results,results15,go_sem]) rfl ⟨by rw[HR.out];rfl,aj.out⟩
 | true=>
  by_cases h1:1<=ty
  ·have jt:decide (1<=ty)=true:=uQ h1;go_wp2_with fail;exact bodyPost_ret (v:=.bool (decide (ty<=8))) (by simp[results,results15,go_sem]) rfl ⟨by rw[HR.out,jt];rfl,aj.out⟩
  ·have jt:decide (1<=ty)=false:=tQ h1;go_wp2_with fail;exact bodyPost_ret (v:=.bool false) (by simp[results,results15,go_sem]) rfl ⟨by rw[HR.out,jt];rfl,aj.out⟩
theorem Nc(n:ByteArray)(hn:n.size<=140737488355328)(ty:Int)(w:World) :
 Calls prog 15 #[.agg #[.string n,.int .i64 ty]] w λe w'=>e = .returned (.bool (Np.yes (Np.QOk n.data.toList ty)))/\Below w.heap.size w w':=
 (Yd n hn ty w).mono λe w' ⟨he,hb⟩=>⟨by rw[he];congr 2;rw[Bool.eq_iff_iff,Np.ew];unfold Np.QOk;simp only[Bool.and_eq_true,Qa],hb⟩
theorem Yk(t:Int)(w:World):Calls prog 16 #[.int .i64 t] w λe w'=>e = .returned (.bool (Np.yes (Np.xD t)))/\Below w.heap.size w w':=by
 obtain⟨r,hr⟩:∃ r,Np.yes (Np.xD t)=r:=⟨_,rfl⟩;have HR:Hid ((decide (0<=t)&&decide (t<=20000000))=r):=jq (by rw[Bool.eq_iff_iff,<-hr,Np.ew];unfold Np.xD;simp only[Bool.and_eq_true,Qa]);rw[hr];clear hr;by_cases h1:0<=t
 ·have jt:decide (0<=t)=true:=uQ h1;go_enter func16,ntmps16;go_wp2_with fail;exact bodyPost_ret (v:=.bool (decide (t<=20000000))) (by simp[results,results16,go_sem]) rfl ⟨by rw[<-HR.out,jt];rfl,vQ _ _⟩
 ·have jt:decide (0<=t)=false:=tQ h1;go_enter func16,ntmps16;go_wp2_with fail;exact bodyPost_ret (v:=.bool false) (by simp[results,results16,go_sem]) rfl ⟨by rw[<-HR.out,jt];rfl,vQ _ _⟩
theorem YJ(l m:List Np.Signed)(rj:l.length=m.length)(aV:∀ x∈l,x∈m)(A1 A2:Option Addr)(n1 c1 n2 c2:Nat)(bl:n1<=1000000)(w:World)(h1:SlR bh 5 w w.heap.size (.slice A1 n1 c1) l)(h2:SlR bh 5 w w.heap.size (.slice A2 n2 c2) m) :
 Calls prog 24 #[.slice A1 n1 c1,.slice A2 n2 c2] w λe w'=>e = .returned (.bool true)/\Below w.heap.size w w':=by
 have hl:l.length=n1:=Cz h1;have hm:m.length=n2:=Cz h2;obtain rfl:n1=n2:=by omega
 have HN:=jq hl;have HL:=jq h1;have HM:=jq h2;have HS:=jq aV;have hne:((n1:Int) != (n1:Int))=false:=by simp
 have lk:n1<=c1:=by
  obtain⟨A',c',h3,h4,_⟩:=al h1;simp only[Value.slice.injEq] at h3;omega
 clear hl hm h1 h2 aV rj;go_enter func24,ntmps24;go_wp2_with fail;go_loopw [14] (λi wr=>∃ k:Nat,k<=n1/\i = .int .i64 k/\Hid (Below w.heap.size w wr)) (λi _=>n1 - (intOf i).toNat)
 case atStart=>exact⟨0,jQ _,rfl,jq (vQ _ _)⟩
 case round=>
  obtain⟨k,hk,rfl,HB⟩:=hrel;have an:=HB.out.size;by_cases aa:k<n1
  ·obtain⟨y,ab⟩:∃ y,l[k]?=some y:=⟨_,aQ (by rw[HN.out];exact aa)⟩;obtain⟨b2,o2,c3,sy,dv2,sv2,fl,Kn,_,eU,_,nw,mC,f0,f1,f2,f3,f4⟩:=eq (HL.out.later aX cj HB.out) ab;simp only[Value.slice.injEq] at fl;obtain⟨rfl,-,rfl⟩:=fl;have mj:=jq eU;have Dd:=jq nw;have D6:=jq mC;have iB:=jq (HS.out y (gQ ab));obtain⟨dA2,dn2,dc2,rfl⟩:=vL nw;obtain⟨gA2,gn2,gc2,rfl⟩:=vL mC;obtain⟨wc,lp⟩:∃ w',wr.alloc (.cells #[.string sy,.int .i64 y.set.type,.int .i64 y.set.life,.slice dA2 dn2 dc2,.slice gA2 gn2 gc2] 42)=w':=⟨_,rfl⟩;have qR:Below wr.heap.size wr wc:=by rw[<-lp];exact (vQ _ _).alloc (bQ _) _
   have mU:=jq (ku _ _ rfl lp);have fH:=jq (HB.out.trans (qR.mono an));have nU:=jq qR;have bO:(0:Int)<=(k:Int):=by omega
   have bM:(k:Int)<(n1:Int):=by omega
   have y0:=mU.out 0 _ rfl;have y1:=mU.out 1 _ rfl;have y2:=mU.out 2 _ rfl;have y3:=mU.out 3 _ rfl;have y4:=mU.out 4 _ rfl;clear ab eU nw mC qR;go_wp2_with fail
   try clear lp
   refine (Mm m y sy mj.out dA2 dn2 dc2 gA2 gn2 gc2 A2 n1 c2 bl wc (HM.out.later aX cj fH.out) (Dd.out.later de eN nU.out) (D6.out.later ep gp nU.out)).mono ?_;rw[uQ iB.out];rintro e wd ⟨rfl,jx⟩;have mS:=jq (fH.out.trans (jx.mono fH.out.size));clear jx y0 y1 y2 y3 y4;go_wp2_with fail;go_roundw
   case rel=>exact⟨k+1,by omega,by go_num,mS⟩
   case measure=>simp[intOf] <;> omega
  ·go_wp2_with fail;exact bodyPost_ret (v:=.bool true) (by simp[results,results24,go_sem]) rfl ⟨rfl,HB.out⟩
end
end Go.Proofs.YtfnopgdcaanaiaaGreatDoor
