/- Parts of the proof. No condition. -/
import Derived.LaidLaws
import Derived.Stop.LaidErr
import Derived.Test.YtbfbobfbgabjiaaGreatDoorM27
set_option linter.all false
set_option maxRecDepth 100000
set_option maxHeartbeats 8000000
namespace Go.Proofs.YtbfbobfbgabjiaaGreatDoor
open Go.Proofs.Tryz
section
open Go.ChangeShapes Go.WideShapes Go.ChangeAt Go.RowKit Go.Deep
def rP{α:Type}(R:World->Nat->List Value->α->Prop)(P:α->Prop)(W:World)(B:Nat)(e:List Value)(x:α):Prop:=R W B e x/\P x
theorem SlR.both{α:Type}{R:World->Nat->List Value->α->Prop}{P:α->Prop}{sz:Nat}{W:World}{B:Nat}{v:Value}{xs:List α}(h:SlR (rP R P) sz W B v xs):SlR R sz W B v xs/\∀ x∈xs,P x:=by
 obtain⟨A,c,h1,h2,h3,h4⟩:=h;refine⟨⟨A,c,h1,h2,h3,λi x hx=>?_⟩,λx hx=>?_⟩
 ·obtain⟨b,o,e,k1,k2,k3,k4,k5,_⟩:=h4 i x hx;exact⟨b,o,e,k1,k2,k3,k4,k5⟩
 ·obtain⟨i,hi⟩:=List.mem_iff_getElem?.1 hx;obtain⟨b,o,e,_,_,_,_,_,k⟩:=h4 i x hi;exact k
def Px(g:Np.Sig):Prop:=0<=g.sum/\g.sum<18446744073709551616
def Pv(z:Np.Zone):Prop:=∀ s∈z.sets,Np.yC s
def Pw(c:Np.Copy):Prop:=Pv c.zone
theorem Xj{x:Int}(h:(Lit.int .u64 x).wf=true):0<=x/\x<18446744073709551616:=by
 have:=bounds_u64 h
 omega
theorem U2:prog.cellsOf 24=1:=by kernel_rfl
theorem W4:prog.cellsOf 66=1:=by kernel_rfl
theorem Ui:prog.cellsOf 54=1:=by kernel_rfl
theorem Zd:prog.cellsOf 131=1:=by kernel_rfl
theorem OU:prog.cellsOf 26=4:=by kernel_rfl
theorem Yh:prog.cellsOf 56=2:=by kernel_rfl
theorem VK:prog.cellsOf 22=1:=by kernel_rfl
theorem VL:prog.cellsOf 23=1:=by kernel_rfl
theorem W6:prog.cellsOf 27=1:=by kernel_rfl
def RSet(W:World)(B:Nat)(e:List Value)(x:Np.DSet):Prop:=∃ (s:ByteArray) (v:Value),s.data.toList=x.name/\s.size<=140737488355328/\SlR cG 3 W B v x.data/\e = [.string s,.int .i64 x.type,.int .i64 x.life,v]
theorem Vr:jt prog 96 3 cG:=by
 intro H enc W base spare held fuel cs d ps h hw;obtain⟨hl,hf⟩:=tt underlying96 h hw;have hl':cs.length=3:=hl.trans (by kernel_rfl);clear hl
 match cs,hl' with
 | [c0,c1,c2],_=>
  obtain⟨n0,d0,p0,t0,w0⟩:=hf 0 _ rfl;have t0':DataW.trod enc prog W base spare held n0 9 (([c0,c1,c2].drop 0).take (prog.cellsOf 9))=some (d0,p0):=t0;rw[Ar] at t0';have u0:DataW.trod enc prog W base spare held n0 9 [c0]=some (d0,p0):=t0';obtain⟨n1,d1,p1,t1,w1⟩:=hf 1 _ rfl;have t1':DataW.trod enc prog W base spare held n1 3 (([c0,c1,c2].drop 1).take (prog.cellsOf 3))=some (d1,p1):=t1;rw[jn] at t1';have u1:DataW.trod enc prog W base spare held n1 3 [c1]=some (d1,p1):=t1';obtain⟨n2,d2,p2,t2,w2⟩:=hf 2 _ rfl;have t2':DataW.trod enc prog W base spare held n2 3 (([c0,c1,c2].drop 2).take (prog.cellsOf 3))=some (d2,p2):=t2;rw[jn] at t2';have u2:DataW.trod enc prog W base spare held n2 3 [c2]=some (d2,p2):=t2';obtain⟨_,_,s0,_,gD,fz⟩:=zT underlying9 H enc W base spare held n0 _ _ _ u0 w0;obtain rfl:c0 = .string s0:=by simpa using fz
  obtain⟨_,x1,fB,wf1⟩:=kM underlying3 H enc W base spare held n1 _ _ _ u1 w1;obtain rfl:c1 = .int .i64 x1:=by simpa using fB
  obtain⟨_,x2,nk,wf2⟩:=kM underlying3 H enc W base spare held n2 _ _ _ u2 w2;obtain rfl:c2 = .int .i64 x2:=by simpa using nk
  exact⟨rfl,⟨s0.data.toList,x1,x2⟩,s0,rfl,gD,rfl⟩
theorem Wp:jt prog 24 1 (RSl cG 3):=x6 underlying24 (by kernel_rfl) (by decide) (of_decide_eq_true (by kernel_rfl)) Vr
theorem NY:jt prog 26 4 RSet:=by
 intro H enc W base spare held fuel cs d ps h hw;obtain⟨hl,hf⟩:=tt underlying26 h hw;have hl':cs.length=4:=hl.trans (by kernel_rfl);clear hl
 match cs,hl' with
 | [c0,c1,c2,c3],_=>
  obtain⟨n0,d0,p0,t0,w0⟩:=hf 0 _ rfl;have t0':DataW.trod enc prog W base spare held n0 9 (([c0,c1,c2,c3].drop 0).take (prog.cellsOf 9))=some (d0,p0):=t0;rw[Ar] at t0';have u0:DataW.trod enc prog W base spare held n0 9 [c0]=some (d0,p0):=t0';obtain⟨n1,d1,p1,t1,w1⟩:=hf 1 _ rfl;have t1':DataW.trod enc prog W base spare held n1 3 (([c0,c1,c2,c3].drop 1).take (prog.cellsOf 3))=some (d1,p1):=t1;rw[jn] at t1';have u1:DataW.trod enc prog W base spare held n1 3 [c1]=some (d1,p1):=t1';obtain⟨n2,d2,p2,t2,w2⟩:=hf 2 _ rfl;have t2':DataW.trod enc prog W base spare held n2 3 (([c0,c1,c2,c3].drop 2).take (prog.cellsOf 3))=some (d2,p2):=t2;rw[jn] at t2';have u2:DataW.trod enc prog W base spare held n2 3 [c2]=some (d2,p2):=t2';obtain⟨n3,d3,p3,t3,w3⟩:=hf 3 _ rfl;have t3':DataW.trod enc prog W base spare held n3 24 (([c0,c1,c2,c3].drop 3).take (prog.cellsOf 24))=some (d3,p3):=t3;rw[U2] at t3';have u3:DataW.trod enc prog W base spare held n3 24 [c3]=some (d3,p3):=t3';obtain⟨_,_,s0,_,gD,fz⟩:=zT underlying9 H enc W base spare held n0 _ _ _ u0 w0;obtain rfl:c0 = .string s0:=by simpa using fz
  obtain⟨_,x1,fB,wf1⟩:=kM underlying3 H enc W base spare held n1 _ _ _ u1 w1;obtain rfl:c1 = .int .i64 x1:=by simpa using fB
  obtain⟨_,x2,nk,wf2⟩:=kM underlying3 H enc W base spare held n2 _ _ _ u2 w2;obtain rfl:c2 = .int .i64 x2:=by simpa using nk
  obtain⟨_,x3,v3,qK,IZ⟩:=Wp H enc W base spare held n3 _ _ _ u3 w3;obtain rfl:c3=v3:=by simpa using qK
  exact⟨rfl,⟨s0.data.toList,x1,x2,x3⟩,s0,_,rfl,gD,IZ,rfl⟩
theorem Xy:jt prog 133 6 (rP fT Px):=by
 intro H enc W base spare held fuel cs d ps h hw;obtain⟨hl,hf⟩:=tt underlying133 h hw;have hl':cs.length=6:=hl.trans (by kernel_rfl);clear hl
 match cs,hl' with
 | [c0,c1,c2,c3,c4,c5],_=>
  obtain⟨n0,d0,p0,t0,w0⟩:=hf 0 _ rfl;have t0':DataW.trod enc prog W base spare held n0 9 (([c0,c1,c2,c3,c4,c5].drop 0).take (prog.cellsOf 9))=some (d0,p0):=t0;rw[Ar] at t0';have u0:DataW.trod enc prog W base spare held n0 9 [c0]=some (d0,p0):=t0';obtain⟨n1,d1,p1,t1,w1⟩:=hf 1 _ rfl;have t1':DataW.trod enc prog W base spare held n1 3 (([c0,c1,c2,c3,c4,c5].drop 1).take (prog.cellsOf 3))=some (d1,p1):=t1;rw[jn] at t1';have u1:DataW.trod enc prog W base spare held n1 3 [c1]=some (d1,p1):=t1';obtain⟨n2,d2,p2,t2,w2⟩:=hf 2 _ rfl;have t2':DataW.trod enc prog W base spare held n2 3 (([c0,c1,c2,c3,c4,c5].drop 2).take (prog.cellsOf 3))=some (d2,p2):=t2;rw[jn] at t2';have u2:DataW.trod enc prog W base spare held n2 3 [c2]=some (d2,p2):=t2';obtain⟨n3,d3,p3,t3,w3⟩:=hf 3 _ rfl;have t3':DataW.trod enc prog W base spare held n3 3 (([c0,c1,c2,c3,c4,c5].drop 3).take (prog.cellsOf 3))=some (d3,p3):=t3;rw[jn] at t3';have u3:DataW.trod enc prog W base spare held n3 3 [c3]=some (d3,p3):=t3';obtain⟨n4,d4,p4,t4,w4⟩:=hf 4 _ rfl;have t4':DataW.trod enc prog W base spare held n4 3 (([c0,c1,c2,c3,c4,c5].drop 4).take (prog.cellsOf 3))=some (d4,p4):=t4;rw[jn] at t4';have u4:DataW.trod enc prog W base spare held n4 3 [c4]=some (d4,p4):=t4';obtain⟨n5,d5,p5,t5,w5⟩:=hf 5 _ rfl;have t5':DataW.trod enc prog W base spare held n5 131 (([c0,c1,c2,c3,c4,c5].drop 5).take (prog.cellsOf 131))=some (d5,p5):=t5;rw[Zd] at t5';have u5:DataW.trod enc prog W base spare held n5 131 [c5]=some (d5,p5):=t5';obtain⟨_,_,s0,_,gD,fz⟩:=zT underlying9 H enc W base spare held n0 _ _ _ u0 w0;obtain rfl:c0 = .string s0:=by simpa using fz
  obtain⟨_,x1,fB,wf1⟩:=kM underlying3 H enc W base spare held n1 _ _ _ u1 w1;obtain rfl:c1 = .int .i64 x1:=by simpa using fB
  obtain⟨_,x2,nk,wf2⟩:=kM underlying3 H enc W base spare held n2 _ _ _ u2 w2;obtain rfl:c2 = .int .i64 x2:=by simpa using nk
  obtain⟨_,x3,qK,wf3⟩:=kM underlying3 H enc W base spare held n3 _ _ _ u3 w3;obtain rfl:c3 = .int .i64 x3:=by simpa using qK
  obtain⟨_,x4,Kz,wf4⟩:=kM underlying3 H enc W base spare held n4 _ _ _ u4 w4;obtain rfl:c4 = .int .i64 x4:=by simpa using Kz
  obtain⟨_,x5,JG,wf5⟩:=kM underlying131 H enc W base spare held n5 _ _ _ u5 w5;obtain rfl:c5 = .int .u64 x5:=by simpa using JG
  exact⟨rfl,⟨s0.data.toList,x1,x2,x3,x4,x5⟩,⟨s0,rfl,gD,rfl⟩,Xj wf5⟩
theorem Wm:jt prog 66 1 (RSl (rP fT Px) 6):=x6 underlying66 (by kernel_rfl) (by decide) (of_decide_eq_true (by kernel_rfl)) Xy
theorem UI:jt prog 68 5 (rP bK Np.yC):=by
 intro H enc W base spare held fuel cs d ps h hw;obtain⟨hl,hf⟩:=tt underlying68 h hw;have hl':cs.length=5:=hl.trans (by kernel_rfl);clear hl
 match cs,hl' with
 | [c0,c1,c2,c3,c4],_=>
  obtain⟨n0,d0,p0,t0,w0⟩:=hf 0 _ rfl;have t0':DataW.trod enc prog W base spare held n0 26 (([c0,c1,c2,c3,c4].drop 0).take (prog.cellsOf 26))=some (d0,p0):=t0;rw[OU] at t0';have u0:DataW.trod enc prog W base spare held n0 26 [c0,c1,c2,c3]=some (d0,p0):=t0';obtain⟨n1,d1,p1,t1,w1⟩:=hf 1 _ rfl;have t1':DataW.trod enc prog W base spare held n1 66 (([c0,c1,c2,c3,c4].drop 4).take (prog.cellsOf 66))=some (d1,p1):=t1;rw[W4] at t1';have u1:DataW.trod enc prog W base spare held n1 66 [c4]=some (d1,p1):=t1';obtain⟨_,x0,fz⟩:=NY H enc W base spare held n0 _ _ _ u0 w0;obtain⟨_,x1,v1,fB,uW⟩:=Wm H enc W base spare held n1 _ _ _ u1 w1;obtain rfl:c4=v1:=by simpa using fB
  obtain⟨sa,va,ha,hb,hc,hd⟩:=fz;exact⟨rfl,⟨x0,x1⟩,⟨sa,va,_,ha,hb,hc,uW.both.1,by rw[List.cons.injEq,List.cons.injEq,List.cons.injEq,List.cons.injEq] at hd; obtain⟨rfl,rfl,rfl,rfl,_⟩:=hd; rfl⟩,uW.both.2⟩
theorem T7:jt prog 54 1 (RSl (rP bK Np.yC) 5):=x6 underlying54 (by kernel_rfl) (by decide) (of_decide_eq_true (by kernel_rfl)) UI
theorem Wl:jt prog 56 2 (rP acX Pv):=by
 intro H enc W base spare held fuel cs d ps h hw;obtain⟨hl,hf⟩:=tt underlying56 h hw;have hl':cs.length=2:=hl.trans (by kernel_rfl);clear hl
 match cs,hl' with
 | [c0,c1],_=>
  obtain⟨n0,d0,p0,t0,w0⟩:=hf 0 _ rfl;have t0':DataW.trod enc prog W base spare held n0 9 (([c0,c1].drop 0).take (prog.cellsOf 9))=some (d0,p0):=t0;rw[Ar] at t0';have u0:DataW.trod enc prog W base spare held n0 9 [c0]=some (d0,p0):=t0';obtain⟨n1,d1,p1,t1,w1⟩:=hf 1 _ rfl;have t1':DataW.trod enc prog W base spare held n1 54 (([c0,c1].drop 1).take (prog.cellsOf 54))=some (d1,p1):=t1;rw[Ui] at t1';have u1:DataW.trod enc prog W base spare held n1 54 [c1]=some (d1,p1):=t1';obtain⟨_,_,s0,_,gD,fz⟩:=zT underlying9 H enc W base spare held n0 _ _ _ u0 w0;obtain rfl:c0 = .string s0:=by simpa using fz
  obtain⟨_,x1,v1,fB,uW⟩:=T7 H enc W base spare held n1 _ _ _ u1 w1;obtain rfl:c1=v1:=by simpa using fB
  exact⟨rfl,⟨s0.data.toList,x1⟩,⟨s0,_,rfl,gD,uW.both.1,rfl⟩,uW.both.2⟩
theorem Wq:jt prog 58 5 (rP iF Pw):=by
 intro H enc W base spare held fuel cs d ps h hw;obtain⟨hl,hf⟩:=tt underlying58 h hw;have hl':cs.length=5:=hl.trans (by kernel_rfl);clear hl
 match cs,hl' with
 | [c0,c1,c2,c3,c4],_=>
  obtain⟨n0,d0,p0,t0,w0⟩:=hf 0 _ rfl;have t0':DataW.trod enc prog W base spare held n0 3 (([c0,c1,c2,c3,c4].drop 0).take (prog.cellsOf 3))=some (d0,p0):=t0;rw[jn] at t0';have u0:DataW.trod enc prog W base spare held n0 3 [c0]=some (d0,p0):=t0';obtain⟨n1,d1,p1,t1,w1⟩:=hf 1 _ rfl;have t1':DataW.trod enc prog W base spare held n1 3 (([c0,c1,c2,c3,c4].drop 1).take (prog.cellsOf 3))=some (d1,p1):=t1;rw[jn] at t1';have u1:DataW.trod enc prog W base spare held n1 3 [c1]=some (d1,p1):=t1';obtain⟨n2,d2,p2,t2,w2⟩:=hf 2 _ rfl;have t2':DataW.trod enc prog W base spare held n2 3 (([c0,c1,c2,c3,c4].drop 2).take (prog.cellsOf 3))=some (d2,p2):=t2;rw[jn] at t2';have u2:DataW.trod enc prog W base spare held n2 3 [c2]=some (d2,p2):=t2';obtain⟨n3,d3,p3,t3,w3⟩:=hf 3 _ rfl;have t3':DataW.trod enc prog W base spare held n3 56 (([c0,c1,c2,c3,c4].drop 3).take (prog.cellsOf 56))=some (d3,p3):=t3;rw[Yh] at t3';have u3:DataW.trod enc prog W base spare held n3 56 [c3,c4]=some (d3,p3):=t3';obtain⟨_,x0,fz,wf0⟩:=kM underlying3 H enc W base spare held n0 _ _ _ u0 w0;obtain rfl:c0 = .int .i64 x0:=by simpa using fz
  obtain⟨_,x1,fB,wf1⟩:=kM underlying3 H enc W base spare held n1 _ _ _ u1 w1;obtain rfl:c1 = .int .i64 x1:=by simpa using fB
  obtain⟨_,x2,nk,wf2⟩:=kM underlying3 H enc W base spare held n2 _ _ _ u2 w2;obtain rfl:c2 = .int .i64 x2:=by simpa using nk
  obtain⟨_,x3,qK⟩:=Wl H enc W base spare held n3 _ _ _ u3 w3;obtain⟨⟨sa,va,ha,hb,hc,hd⟩,hp⟩:=qK;exact⟨rfl,⟨x0,x1,x2,x3⟩,⟨sa,va,ha,hb,hc,by rw[List.cons.injEq,List.cons.injEq] at hd; obtain⟨rfl,rfl,_⟩:=hd; rfl⟩,hp⟩
theorem UJ:jt prog 23 1 (RSl (rP iF Pw) 5):=x6 underlying23 (by kernel_rfl) (by decide) (of_decide_eq_true (by kernel_rfl)) Wq
theorem Wo:jt prog 64 3 gW:=by
 intro H enc W base spare held fuel cs d ps h hw;obtain⟨hl,hf⟩:=tt underlying64 h hw;have hl':cs.length=3:=hl.trans (by kernel_rfl);clear hl
 match cs,hl' with
 | [c0,c1,c2],_=>
  obtain⟨n0,d0,p0,t0,w0⟩:=hf 0 _ rfl;have t0':DataW.trod enc prog W base spare held n0 9 (([c0,c1,c2].drop 0).take (prog.cellsOf 9))=some (d0,p0):=t0;rw[Ar] at t0';have u0:DataW.trod enc prog W base spare held n0 9 [c0]=some (d0,p0):=t0';obtain⟨n1,d1,p1,t1,w1⟩:=hf 1 _ rfl;have t1':DataW.trod enc prog W base spare held n1 3 (([c0,c1,c2].drop 1).take (prog.cellsOf 3))=some (d1,p1):=t1;rw[jn] at t1';have u1:DataW.trod enc prog W base spare held n1 3 [c1]=some (d1,p1):=t1';obtain⟨n2,d2,p2,t2,w2⟩:=hf 2 _ rfl;have t2':DataW.trod enc prog W base spare held n2 3 (([c0,c1,c2].drop 2).take (prog.cellsOf 3))=some (d2,p2):=t2;rw[jn] at t2';have u2:DataW.trod enc prog W base spare held n2 3 [c2]=some (d2,p2):=t2';obtain⟨_,_,s0,_,gD,fz⟩:=zT underlying9 H enc W base spare held n0 _ _ _ u0 w0;obtain rfl:c0 = .string s0:=by simpa using fz
  obtain⟨_,x1,fB,wf1⟩:=kM underlying3 H enc W base spare held n1 _ _ _ u1 w1;obtain rfl:c1 = .int .i64 x1:=by simpa using fB
  obtain⟨_,x2,nk,wf2⟩:=kM underlying3 H enc W base spare held n2 _ _ _ u2 w2;obtain rfl:c2 = .int .i64 x2:=by simpa using nk
  exact⟨rfl,⟨s0.data.toList,x1,x2⟩,s0,rfl,gD,rfl⟩
theorem Vq:jt prog 22 1 (RSl gW 3):=x6 underlying22 (by kernel_rfl) (by decide) (of_decide_eq_true (by kernel_rfl)) Wo
theorem Xz:jt prog 3 1 ip:=λH enc W base spare held fuel cs d ps h hw=>by
 obtain⟨h1,x,h2,_⟩:=kM underlying3 H enc W base spare held fuel cs d ps h hw;exact⟨h1,x,h2⟩
theorem Wn:jt prog 27 1 (RSl ip 1):=x6 underlying27 (by kernel_rfl) (by decide) (of_decide_eq_true (by kernel_rfl)) Xz
theorem GI:jt prog 29 9 (rP bw Np.lA):=by
 intro H enc W base spare held fuel cs d ps h hw;obtain⟨hl,hf⟩:=tt underlying29 h hw;have hl':cs.length=9:=hl.trans (by kernel_rfl);clear hl
 match cs,hl' with
 | [c0,c1,c2,c3,c4,c5,c6,c7,c8],_=>
  obtain⟨n0,d0,p0,t0,w0⟩:=hf 0 _ rfl;have t0':DataW.trod enc prog W base spare held n0 22 (([c0,c1,c2,c3,c4,c5,c6,c7,c8].drop 0).take (prog.cellsOf 22))=some (d0,p0):=t0;rw[VK] at t0';have u0:DataW.trod enc prog W base spare held n0 22 [c0]=some (d0,p0):=t0';obtain⟨n1,d1,p1,t1,w1⟩:=hf 1 _ rfl;have t1':DataW.trod enc prog W base spare held n1 23 (([c0,c1,c2,c3,c4,c5,c6,c7,c8].drop 1).take (prog.cellsOf 23))=some (d1,p1):=t1;rw[VL] at t1';have u1:DataW.trod enc prog W base spare held n1 23 [c1]=some (d1,p1):=t1';obtain⟨n2,d2,p2,t2,w2⟩:=hf 2 _ rfl;have t2':DataW.trod enc prog W base spare held n2 26 (([c0,c1,c2,c3,c4,c5,c6,c7,c8].drop 2).take (prog.cellsOf 26))=some (d2,p2):=t2;rw[OU] at t2';have u2:DataW.trod enc prog W base spare held n2 26 [c2,c3,c4,c5]=some (d2,p2):=t2';obtain⟨n3,d3,p3,t3,w3⟩:=hf 3 _ rfl;have t3':DataW.trod enc prog W base spare held n3 27 (([c0,c1,c2,c3,c4,c5,c6,c7,c8].drop 6).take (prog.cellsOf 27))=some (d3,p3):=t3;rw[W6] at t3';have u3:DataW.trod enc prog W base spare held n3 27 [c6]=some (d3,p3):=t3';obtain⟨n4,d4,p4,t4,w4⟩:=hf 4 _ rfl;have t4':DataW.trod enc prog W base spare held n4 3 (([c0,c1,c2,c3,c4,c5,c6,c7,c8].drop 7).take (prog.cellsOf 3))=some (d4,p4):=t4;rw[jn] at t4';have u4:DataW.trod enc prog W base spare held n4 3 [c7]=some (d4,p4):=t4';obtain⟨n5,d5,p5,t5,w5⟩:=hf 5 _ rfl;have t5':DataW.trod enc prog W base spare held n5 3 (([c0,c1,c2,c3,c4,c5,c6,c7,c8].drop 8).take (prog.cellsOf 3))=some (d5,p5):=t5;rw[jn] at t5';have u5:DataW.trod enc prog W base spare held n5 3 [c8]=some (d5,p5):=t5';obtain⟨_,x0,v0,fz,a0X⟩:=Vq H enc W base spare held n0 _ _ _ u0 w0;obtain rfl:c0=v0:=by simpa using fz
  obtain⟨_,x1,v1,fB,uW⟩:=UJ H enc W base spare held n1 _ _ _ u1 w1;obtain rfl:c1=v1:=by simpa using fB
  obtain⟨_,x2,nk⟩:=NY H enc W base spare held n2 _ _ _ u2 w2;obtain⟨_,x3,v3,qK,IZ⟩:=Wn H enc W base spare held n3 _ _ _ u3 w3;obtain rfl:c6=v3:=by simpa using qK
  obtain⟨_,x4,Kz,wf4⟩:=kM underlying3 H enc W base spare held n4 _ _ _ u4 w4;obtain rfl:c7 = .int .i64 x4:=by simpa using Kz
  obtain⟨_,x5,JG,wf5⟩:=kM underlying3 H enc W base spare held n5 _ _ _ u5 w5;obtain rfl:c8 = .int .i64 x5:=by simpa using JG
  obtain⟨sa,va,ha,hb,hc,hd⟩:=nk;exact⟨rfl,⟨x0,x1,x2,x3,x4,x5⟩,⟨_,_,sa,va,_,by rw[List.cons.injEq,List.cons.injEq,List.cons.injEq,List.cons.injEq] at hd; obtain⟨rfl,rfl,rfl,rfl,_⟩:=hd; rfl,ha,hb,a0X,uW.both.1,hc,IZ⟩,uW.both.2⟩
theorem GP{α:Type}{P:Program}{t:TypeId}{sz:Nat}{R:World->Nat->List Value->α->Prop}{fs:Array Field}(hs:P.underlying t=some (.struct fs))(hR:jt P t sz R){H:Type}{enc:TypeId×Value->H}{W:World}{r:Reach}{base b0:Nat}{spare:Nat->Bool}{held:Bool}{v:Value}{d:DataW H}{p:List MemPlace}
 (hv:Value.okWide P W r b0 t v) (h:DataW.Trod enc P W base spare held t v d p) (hw:∀ n∈d.weights P t,n<=reachBytes):∃ (cs:List Value) (x:α),v = .agg cs.toArray/\R W W.heap.size cs x:=by
 obtain⟨cs,rfl,_⟩:=okWide_struct hs hv;obtain⟨fuel,hf⟩:=h;obtain⟨_,x,hx⟩:=hR H enc W base spare held fuel _ d p hf hw;exact⟨_,x,by simp[Value.cells],hx⟩
theorem qu{H:Type}{P:Program}{ts:List TypeId}{ds:List (DataW H)}(h:(DataW.weightsEach P ts ds).all (·<=reachBytes)=true){j:Nat}{t:TypeId}{d:DataW H}(ht:ts[j]?=some t)(hd:ds[j]?=some d):∀ n∈d.weights P t,n<=reachBytes:=
 λn hn=>by simpa using List.all_eq_true.1 h n (DataW.weights_mem_each ht hd n hn)
end
section
open Go.ChangeShapes Go.WideShapes Go.ChangeAt Go.RowKit Go.Shelf
theorem Y1:(prog.globals[2]?).map (·.type)=some 284:=by kernel_rfl
theorem WC:(Rows.laid_internal_strconv_uint64pow10:DataW Unit)=Lib.tabData .u64 Lib.pow10Tab:=by rfl
theorem Z8{W:World}{r:List (String×DataW Unit)}(h:laidMet prog (("internal/strconv.uint64pow10",Rows.laid_internal_strconv_uint64pow10)::r) W):iX W:=by
 rw[WC] at h;exact Lib.tabIs_of_head It Y1 underlying284 underlying131 (by kernel_rfl) (by kernel_rfl) h
theorem Hl{W:World}(h:laidMet prog Rows.historyAtRow.laid W):je W.heap.size W:=by
 have hp:=Z8 (laidMet.tail (laidMet.tail h));exact⟨YC (laidMet.tail (laidMet.tail (laidMet.tail h))),hp,hp.lt⟩
def Ip:DataW Unit->Value
 | .lit (.int k n)=>.int k n
 | .lit (.bool b)=>.bool b
 | .lit (.string s)=>.string ⟨s.toArray⟩
 | _=>undef
def acJ:DataW Unit->List Value
 | .agg m=>m.map Ip
 | d=>[Ip d]
def Ed:DataW Unit->List Value
 | .agg l=>l.flatMap acJ
 | d=>[Ip d]
noncomputable def qq(os:Os):World:=
 let w0:=World.holding prog os ⟨#[],#[],[]⟩
 let put (h:Array Obj) (g:Nat) (cs:Array Value):Array Obj:=h.modify g fun
  | .cells _ t frozen=>.cells cs t frozen
  | o=>o
 let h5:=put w0.heap 2 (Ed Rows.laid_internal_strconv_uint64pow10).toArray
 let h6:=put h5 3 (Ed Rows.laid_math_bits_deBruijn32tab).toArray
 let h7:=put h6 4 (Ed Rows.laid_math_bits_deBruijn64tab).toArray
 let h8:=put h7 0 (Ed Rows.laid_nameplan_record_rules).toArray
 { w0 with heap:=h8 }
theorem G8(os:Os)(args:Array Value):laidMet prog Rows.historyAtRow.laid ((qq os).forCall (λ_ _=>0) ⟨#[],args,[]⟩).memory:=
 laidMet_of_run' 8 (by kernel_rfl) (by kernel_rfl)
end
end Go.Proofs.YtbfbobfbgabjiaaGreatDoor
