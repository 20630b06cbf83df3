/- Parts of the proof. No condition. -/
import Derived.Test.YtfnopgdcaanaiaaGreatDoorW28
set_option linter.all false
set_option maxRecDepth 100000
set_option maxHeartbeats 8000000
namespace Go.Proofs.YtfnopgdcaanaiaaGreatDoor
open Go.Proofs.Tryz
section
open Go.RowKit
theorem anK{α:Type}{R:aFJ α}{sz:Nat}{w:World}{B n c:Nat}{A:Option Addr}{xs:List α}(h:SlR R sz w B (.slice A n c) xs):xs.length=n:=by
 obtain⟨A',c',h1,_⟩:=ak h;simp only[Value.slice.injEq] at h1;exact h1.2.1.symm
def Np.CM(h:Np.Hist):Prop:=Np.pd h/\Np.VHist h
theorem atK(e:List Value)(h:Np.Hist)(w:World)(hh:iz w w.heap.size e h):Calls prog 14 #[.agg e.toArray] w λe w'=>e = .returned (.bool (Np.yes (Np.CM h)))/\Below w.heap.size w w':=by
 obtain⟨A1,n1,c1,A2,n2,c2,s,ty,lf,A3,n3,c3,A4,n4,c4,dr,st,rfl,-,-,-,-,-⟩:=yw hh;have HH:=jq hh;obtain⟨X,hX⟩:=aCQ w.heap.size;obtain⟨w1,ah⟩:=aCQ (w.alloc (.cells #[.slice A1 n1 c1,.slice A2 n2 c2,.string s,.int .i64 ty,.int .i64 lf,.slice A3 n3 c3,.slice A4 n4 c4,.int .i64 dr,.int .i64 st] 29));have bk:w1.heap.size=X+1:=by rw[<-ah,<-hX];simp
 have az:Hid (Below w.heap.size w w1):=jq (by rw[<-ah];exact (vQ _ _).alloc (bQ _) _);have aM:=jq (jB _ _ hX ah);have Cl:Hid (iz w1 w1.heap.size [.slice A1 n1 c1,.slice A2 n2 c2,.string s,.int .i64 ty,.int .i64 lf,.slice A3 n3 c3,.slice A4 n4 c4,.int .i64 dr,.int .i64 st] h):=jq (o4 _ _ _ _ _ (oZ _ _ _ _ _ HH.out az.out) az.out.size);clear hh;have k0:=aM.out 0 _ rfl;have k1:=aM.out 1 _ rfl;have k2:=aM.out 2 _ rfl;have k3:=aM.out 3 _ rfl;have k4:=aM.out 4 _ rfl;have k5:=aM.out 5 _ rfl;have k6:=aM.out 6 _ rfl;have k7:=aM.out 7 _ rfl;have k8:=aM.out 8 _ rfl;go_enter func14,ntmps14;go_wp2_with fail;clear ah;refine (UQ _ h w1 Cl.out).mono ?_;rintro e w2 ⟨rfl,hb⟩;have aK:=hb.size;have ai:=jq hb;have bd:=jq (aM.out.keep hb (by omega));have Cm:=jq (o4 _ _ _ _ _ (oZ _ _ _ _ _ Cl.out hb) hb.size);clear hb;replace k0:=bd.out 0 _ rfl;replace k1:=bd.out 1 _ rfl;replace k2:=bd.out 2 _ rfl;replace k3:=bd.out 3 _ rfl;replace k4:=bd.out 4 _ rfl;replace k5:=bd.out 5 _ rfl;replace k6:=bd.out 6 _ rfl;replace k7:=bd.out 7 _ rfl;replace k8:=bd.out 8 _ rfl;by_cases hF:Np.pd h
 ·have HF:=jq hF;rw[Np.ba hF];clear hF;go_wp2_with fail;refine (afZ _ h HF.out.use.fewH w2 Cm.out).mono ?_;rintro e w3 ⟨rfl,hb⟩;have am:Hid (Below w.heap.size w w3):=jq (az.out.trans ((ai.out.trans (hb.aDQ)).mono az.out.size));clear hb k0 k1 k2 k3 k4 k5 k6 k7 k8;go_wp2_with fail;refine bodyPost_ret (v:=.bool (Np.yes (Np.VHist h))) (by simp[results,results14,go_sem]) rfl ⟨?_,am.out⟩;rw[Np.sw (show Np.CM h↔Np.VHist h from ⟨λk=>k.2,λk=>⟨HF.out,k⟩⟩)]
 ·rw[Np.aC hF];have gE:=jq (az.out.trans (ai.out.mono az.out.size));go_wp2_with fail;exact bodyPost_ret (v:=.bool false) (by simp[results,results14,go_sem]) rfl ⟨by rw[Np.aC (λk:Np.CM h=>hF k.1)],gE.out⟩
theorem YZ(l:List Np.Signed)(x:Np.Signed)(sx:ByteArray)(li:sx.data.toList=x.set.name)(dA:Option Addr)(dn dc:Nat)(gA:Option Addr)(gn gc:Nat)(A:Option Addr)(n c:Nat)(bU:n<=1000000)(w:World)(hl:SlR bP 5 w w.heap.size (.slice A n c) l)(hd:SlR bK 3 w w.heap.size (.slice dA dn dc) x.set.data)(hg:SlR dl 6 w w.heap.size (.slice gA gn gc) x.sigs) :
 Calls prog 18 #[.slice A n c,.agg #[.string sx,.int .i64 x.set.type,.int .i64 x.set.life,.slice dA dn dc,.slice gA gn gc]] w λe w'=>e = .returned (.bool (decide (x∈l)))/\Below w.heap.size w w':=by
 have hn:l.length=n:=anK hl;obtain⟨X,hX⟩:=aCQ w.heap.size;obtain⟨w1,ah⟩:=aCQ (w.alloc (.cells #[.string sx,.int .i64 x.set.type,.int .i64 x.set.life,.slice dA dn dc,.slice gA gn gc] 42));have hb:Below w.heap.size w w1:=by rw[<-ah];exact (vQ _ _).alloc (bQ _) _
 have bk:w1.heap.size=X+1:=by rw[<-ah,<-hX];simp
 have aq:=jq hb;have jc:=jq (jB _ _ hX ah);have HD:=jq (hd.later cM dt hb);have HG:=jq (hg.later dD eu hb);have HL:=jq (hl.later bH dH hb);have HN:=jq hn;have nI:n<=c:=by
  obtain⟨A',c',h1,h2,_⟩:=ak hl;simp only[Value.slice.injEq] at h1;omega
 clear hb hd hg hl hn;go_enter func18,ntmps18;go_wp2_with fail
 try clear ah
 go_loopw [9] (λi wr=>∃ k:Nat,k<=n/\i = .int .i64 k/\Hid (x∉l.take k)/\Hid (Below w1.heap.size w1 wr)) (λi _=>n - (intOf i).toNat)
 case atStart=>exact⟨0,jQ _,rfl,jq (by simp),jq (vQ _ _)⟩
 case round=>
  obtain⟨k,hk,rfl,cw,HB⟩:=hrel;have an:=HB.out.size;by_cases aa:k<n
  ·obtain⟨y,ac⟩:∃ y,l[k]?=some y:=⟨_,aQ (by rw[HN.out];exact aa)⟩;obtain⟨b2,o2,c2,sy,dv2,sv2,ll,VW,_,gU,_,vg,vN,f0,f1,f2,f3,f4⟩:=fR (HL.out.later bH dH HB.out) ac;simp only[Value.slice.injEq] at ll;obtain⟨rfl,-,rfl⟩:=ll;have sP:=jq gU;have RF:=jq vg;have SL:=jq vN;have nY:Hid (l.take (k+1)=l.take k ++ [y]):=jq (by
    obtain⟨q1,q2⟩:=cQ.1 ac;rw[fQ q1,q2])
   have FH:=jq (gQ ac);obtain⟨dA2,dn2,dc2,rfl⟩:=Qk vg;obtain⟨gA2,gn2,gc2,rfl⟩:=Qk vN;obtain⟨wc,IU⟩:=aCQ (wr.alloc (.cells #[.string sy,.int .i64 y.set.type,.int .i64 y.set.life,.slice dA2 dn2 dc2,.slice gA2 gn2 gc2] 42));have Hi:Below wr.heap.size wr wc:=by rw[<-IU];exact (vQ _ _).alloc (bQ _) _
   have yX:=jq (jB _ _ rfl IU);have iK:=jq (HB.out.trans (Hi.mono an));have Fg:=jq Hi;have pj:=jq (jc.out.keep iK.out (by omega));have bV:(0:Int)<=(k:Int):=by omega
   have bT:(k:Int)<(n:Int):=by omega
   have g0:=pj.out 0 _ rfl;have g1:=pj.out 1 _ rfl;have g2:=pj.out 2 _ rfl;have g3:=pj.out 3 _ rfl;have g4:=pj.out 4 _ rfl;have y0:=yX.out 0 _ rfl;have y1:=yX.out 1 _ rfl;have y2:=yX.out 2 _ rfl;have y3:=yX.out 3 _ rfl;have y4:=yX.out 4 _ rfl;clear ac gU vg vN Hi;go_wp2_with fail
   try clear IU
   refine (P2 y x sy sx sP.out li _ _ _ _ wc (RF.out.later cM dt Fg.out) (SL.out.later dD eu Fg.out) (HD.out.later cM dt iK.out) (HG.out.later dD eu iK.out)).mono ?_;rintro e wd ⟨rfl,mj⟩;have go:=jq (iK.out.trans (mj.mono iK.out.size));have hzc:=Fg.out.size;clear mj g0 g1 g2 g3 g4 y0 y1 y2 y3 y4;by_cases cB:y=x
   ·rw[uQ cB];have HE:Hid (Below w.heap.size w wd):=aBY aq go.out;have HT:Hid (decide (x∈l)=true):=jq (uQ (cB ▸ FH.out));clear cB;go_wp2_with fail;exact bodyPost_ret (v:=.bool true) (by simp[results,results18,go_sem]) rfl ⟨by rw[HT.out],HE.out⟩
   ·rw[tQ cB];have Cr:Hid (x∉l.take (k+1)):=jq (by
     rw[nY.out,List.mem_append,List.mem_singleton];rintro (h | h)
     ·exact cw.out h
     ·exact cB h.symm)
    clear cB;go_wp2_with fail;go_roundw
    case rel=>exact⟨k+1,by omega,by go_num,Cr,go⟩
    case measure=>simp[intOf] <;> omega
  ·have HE:Hid (Below w.heap.size w wr):=aBY aq HB.out;have HT:Hid (decide (x∈l)=false):=jq (tQ (λh=>cw.out (by rw[kQ (by rw[HN.out];omega)];exact h)));go_wp2_with fail;exact bodyPost_ret (v:=.bool false) (by simp[results,results18,go_sem]) rfl ⟨by rw[HT.out],HE.out⟩
theorem ahJ(t:Int)(w:World):Calls prog 16 #[.int .i64 t] w (aFQ w.heap.size w (.bool (Np.yes (Np.xF t)))):=by
 obtain⟨r,hr⟩:=aCQ (Np.yes (Np.xF t));have HR:Hid ((decide (0<=t)&&decide (t<=20000000))=r):=jq (by rw[Bool.eq_iff_iff,<-hr,Np.fj];unfold Np.xF;simp only[Bool.and_eq_true,Qa]);rw[hr];clear hr;by_cases h1:0<=t
 ·have lH:decide (0<=t)=true:=uQ h1;go_enter func16,ntmps16;go_wp2_with fail;exact bodyPost_ret (v:=.bool (decide (t<=20000000))) (by simp[results,results16,go_sem]) rfl ⟨by rw[<-HR.out,lH];rfl,vQ _ _⟩
 ·have lH:decide (0<=t)=false:=tQ h1;go_enter func16,ntmps16;go_wp2_with fail;exact bodyPost_ret (v:=.bool false) (by simp[results,results16,go_sem]) rfl ⟨by rw[<-HR.out,lH];rfl,vQ _ _⟩
end
end Go.Proofs.YtfnopgdcaanaiaaGreatDoor
