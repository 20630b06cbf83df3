/- Parts of the proof. No condition. -/
import Derived.Test.YtfnopgdcaanaiaaGreatDoorM17
set_option linter.all false
set_option maxRecDepth 100000
set_option maxHeartbeats 8000000
namespace Go.Proofs.YtfnopgdcaanaiaaGreatDoor
open Go.Proofs.Tryz
section
open Go.ChangeShapes Go.WideShapes Go.ChangeAt Go.RowKit Go.Deep
def oT{α:Type}(R:a1Z α)(P:α->Prop)(W:World)(B:Nat)(e:List Value)(x:α):Prop:=R W B e x/\P x
theorem SlR.both{α:Type}{R:a1Z α}{P:α->Prop}{sz:Nat}{W:World}{B:Nat}{v:Value}{xs:List α}(h:SlR (oT R P) sz W B v xs):SlR R sz W B v xs/\∀ x∈xs,P x:=by
 obtain⟨A,c,h1,h2,h3,h4⟩:=h;refine⟨⟨A,c,h1,h2,h3,λi x hx=>?_⟩,λx hx=>?_⟩
 ·obtain⟨b,o,e,k1,k2,k3,k4,k5,_⟩:=h4 i x hx;exact⟨b,o,e,k1,k2,k3,k4,k5⟩
 ·obtain⟨i,hi⟩:=List.mem_iff_getElem?.1 hx;obtain⟨b,o,e,_,_,_,_,_,k⟩:=h4 i x hi;exact k
def Ny(g:Np.Sig):Prop:=0<=g.sum/\g.sum<18446744073709551616
def NC(z:Np.Zone):Prop:=∀ s∈z.sets,Np.ra s
def Nz(c:Np.Copy):Prop:=NC c.zone
theorem aPJ{x:Int}(h:(Lit.int .u64 x).wf=true):0<=x/\x<18446744073709551616:=by
 have:=bounds_u64 h
 omega
theorem Wg:prog.cellsOf 24=1:=by kernel_rfl
theorem Wk:prog.cellsOf 40=1:=by kernel_rfl
theorem Wl:prog.cellsOf 36=1:=by kernel_rfl
theorem Wm:prog.cellsOf 48=1:=by kernel_rfl
theorem N0:prog.cellsOf 26=4:=by kernel_rfl
theorem Wn:prog.cellsOf 44=2:=by kernel_rfl
theorem Wi:prog.cellsOf 22=1:=by kernel_rfl
theorem Wf:prog.cellsOf 23=1:=by kernel_rfl
theorem Wj:prog.cellsOf 27=1:=by kernel_rfl
def RSet(W:World)(B:Nat)(e:List Value)(x:Np.DSet):Prop:=∃ (s:ByteArray) (v:Value),s.data.toList=x.name/\s.size<=140737488355328/\SlR bR 3 W B v x.data/\e = [.string s,.int .i64 x.type,.int .i64 x.life,v]
theorem ayK:ia prog 128 3 bR:=by
 intro H enc W base spare held fuel cs d ps h hw;obtain⟨hl,hf⟩:=qx underlying128 h hw;have hl':cs.length=3:=hl.trans (by kernel_rfl);clear hl
 match cs,hl' with
 | [c0,c1,c2],_=>
  obtain⟨n0,d0,p0,t0,w0⟩:=hf 0 _ rfl;have t0':DataW.trod enc prog W base spare held n0 9 (([c0,c1,c2].drop 0).take (prog.cellsOf 9))=some (d0,p0):=t0;rw[wn] at t0';have u0:DataW.trod enc prog W base spare held n0 9 [c0]=some (d0,p0):=t0';obtain⟨n1,d1,p1,t1,w1⟩:=hf 1 _ rfl;have t1':DataW.trod enc prog W base spare held n1 3 (([c0,c1,c2].drop 1).take (prog.cellsOf 3))=some (d1,p1):=t1;rw[iK] at t1';have u1:DataW.trod enc prog W base spare held n1 3 [c1]=some (d1,p1):=t1';obtain⟨n2,d2,p2,t2,w2⟩:=hf 2 _ rfl;have t2':DataW.trod enc prog W base spare held n2 3 (([c0,c1,c2].drop 2).take (prog.cellsOf 3))=some (d2,p2):=t2;rw[iK] at t2';have u2:DataW.trod enc prog W base spare held n2 3 [c2]=some (d2,p2):=t2';obtain⟨_,_,s0,_,ij,ea⟩:=xZ underlying9 H enc W base spare held n0 _ _ _ u0 w0;obtain rfl:c0 = .string s0:=by simpa using ea
  obtain⟨_,x1,eC,wf1⟩:=jY underlying3 H enc W base spare held n1 _ _ _ u1 w1;obtain rfl:c1 = .int .i64 x1:=by simpa using eC
  obtain⟨_,x2,lS,wf2⟩:=jY underlying3 H enc W base spare held n2 _ _ _ u2 w2;obtain rfl:c2 = .int .i64 x2:=by simpa using lS
  exact⟨rfl,⟨s0.data.toList,x1,x2⟩,s0,rfl,ij,rfl⟩
theorem ayJ:ia prog 24 1 (RSl bR 3):=xY underlying24 (by kernel_rfl) (by decide) (of_decide_eq_true (by kernel_rfl)) ayK
theorem RR:ia prog 26 4 RSet:=by
 intro H enc W base spare held fuel cs d ps h hw;obtain⟨hl,hf⟩:=qx underlying26 h hw;have hl':cs.length=4:=hl.trans (by kernel_rfl);clear hl
 match cs,hl' with
 | [c0,c1,c2,c3],_=>
  obtain⟨n0,d0,p0,t0,w0⟩:=hf 0 _ rfl;have t0':DataW.trod enc prog W base spare held n0 9 (([c0,c1,c2,c3].drop 0).take (prog.cellsOf 9))=some (d0,p0):=t0;rw[wn] at t0';have u0:DataW.trod enc prog W base spare held n0 9 [c0]=some (d0,p0):=t0';obtain⟨n1,d1,p1,t1,w1⟩:=hf 1 _ rfl;have t1':DataW.trod enc prog W base spare held n1 3 (([c0,c1,c2,c3].drop 1).take (prog.cellsOf 3))=some (d1,p1):=t1;rw[iK] at t1';have u1:DataW.trod enc prog W base spare held n1 3 [c1]=some (d1,p1):=t1';obtain⟨n2,d2,p2,t2,w2⟩:=hf 2 _ rfl;have t2':DataW.trod enc prog W base spare held n2 3 (([c0,c1,c2,c3].drop 2).take (prog.cellsOf 3))=some (d2,p2):=t2;rw[iK] at t2';have u2:DataW.trod enc prog W base spare held n2 3 [c2]=some (d2,p2):=t2';obtain⟨n3,d3,p3,t3,w3⟩:=hf 3 _ rfl;have t3':DataW.trod enc prog W base spare held n3 24 (([c0,c1,c2,c3].drop 3).take (prog.cellsOf 24))=some (d3,p3):=t3;rw[Wg] at t3';have u3:DataW.trod enc prog W base spare held n3 24 [c3]=some (d3,p3):=t3';obtain⟨_,_,s0,_,ij,ea⟩:=xZ underlying9 H enc W base spare held n0 _ _ _ u0 w0;obtain rfl:c0 = .string s0:=by simpa using ea
  obtain⟨_,x1,eC,wf1⟩:=jY underlying3 H enc W base spare held n1 _ _ _ u1 w1;obtain rfl:c1 = .int .i64 x1:=by simpa using eC
  obtain⟨_,x2,lS,wf2⟩:=jY underlying3 H enc W base spare held n2 _ _ _ u2 w2;obtain rfl:c2 = .int .i64 x2:=by simpa using lS
  obtain⟨_,x3,v3,uK,Kk⟩:=ayJ H enc W base spare held n3 _ _ _ u3 w3;obtain rfl:c3=v3:=by simpa using uK
  exact⟨rfl,⟨s0.data.toList,x1,x2,x3⟩,s0,_,rfl,ij,Kk,rfl⟩
theorem aAQ:ia prog 50 6 (oT cS Ny):=by
 intro H enc W base spare held fuel cs d ps h hw;obtain⟨hl,hf⟩:=qx underlying50 h hw;have hl':cs.length=6:=hl.trans (by kernel_rfl);clear hl
 match cs,hl' with
 | [c0,c1,c2,c3,c4,c5],_=>
  obtain⟨n0,d0,p0,t0,w0⟩:=hf 0 _ rfl;have t0':DataW.trod enc prog W base spare held n0 9 (([c0,c1,c2,c3,c4,c5].drop 0).take (prog.cellsOf 9))=some (d0,p0):=t0;rw[wn] at t0';have u0:DataW.trod enc prog W base spare held n0 9 [c0]=some (d0,p0):=t0';obtain⟨n1,d1,p1,t1,w1⟩:=hf 1 _ rfl;have t1':DataW.trod enc prog W base spare held n1 3 (([c0,c1,c2,c3,c4,c5].drop 1).take (prog.cellsOf 3))=some (d1,p1):=t1;rw[iK] at t1';have u1:DataW.trod enc prog W base spare held n1 3 [c1]=some (d1,p1):=t1';obtain⟨n2,d2,p2,t2,w2⟩:=hf 2 _ rfl;have t2':DataW.trod enc prog W base spare held n2 3 (([c0,c1,c2,c3,c4,c5].drop 2).take (prog.cellsOf 3))=some (d2,p2):=t2;rw[iK] at t2';have u2:DataW.trod enc prog W base spare held n2 3 [c2]=some (d2,p2):=t2';obtain⟨n3,d3,p3,t3,w3⟩:=hf 3 _ rfl;have t3':DataW.trod enc prog W base spare held n3 3 (([c0,c1,c2,c3,c4,c5].drop 3).take (prog.cellsOf 3))=some (d3,p3):=t3;rw[iK] at t3';have u3:DataW.trod enc prog W base spare held n3 3 [c3]=some (d3,p3):=t3';obtain⟨n4,d4,p4,t4,w4⟩:=hf 4 _ rfl;have t4':DataW.trod enc prog W base spare held n4 3 (([c0,c1,c2,c3,c4,c5].drop 4).take (prog.cellsOf 3))=some (d4,p4):=t4;rw[iK] at t4';have u4:DataW.trod enc prog W base spare held n4 3 [c4]=some (d4,p4):=t4';obtain⟨n5,d5,p5,t5,w5⟩:=hf 5 _ rfl;have t5':DataW.trod enc prog W base spare held n5 48 (([c0,c1,c2,c3,c4,c5].drop 5).take (prog.cellsOf 48))=some (d5,p5):=t5;rw[Wm] at t5';have u5:DataW.trod enc prog W base spare held n5 48 [c5]=some (d5,p5):=t5';obtain⟨_,_,s0,_,ij,ea⟩:=xZ underlying9 H enc W base spare held n0 _ _ _ u0 w0;obtain rfl:c0 = .string s0:=by simpa using ea
  obtain⟨_,x1,eC,wf1⟩:=jY underlying3 H enc W base spare held n1 _ _ _ u1 w1;obtain rfl:c1 = .int .i64 x1:=by simpa using eC
  obtain⟨_,x2,lS,wf2⟩:=jY underlying3 H enc W base spare held n2 _ _ _ u2 w2;obtain rfl:c2 = .int .i64 x2:=by simpa using lS
  obtain⟨_,x3,uK,wf3⟩:=jY underlying3 H enc W base spare held n3 _ _ _ u3 w3;obtain rfl:c3 = .int .i64 x3:=by simpa using uK
  obtain⟨_,x4,Ky,wf4⟩:=jY underlying3 H enc W base spare held n4 _ _ _ u4 w4;obtain rfl:c4 = .int .i64 x4:=by simpa using Ky
  obtain⟨_,x5,Kz,wf5⟩:=jY underlying48 H enc W base spare held n5 _ _ _ u5 w5;obtain rfl:c5 = .int .u64 x5:=by simpa using Kz
  exact⟨rfl,⟨s0.data.toList,x1,x2,x3,x4,x5⟩,⟨s0,rfl,ij,rfl⟩,aPJ wf5⟩
theorem aAJ:ia prog 40 1 (RSl (oT cS Ny) 6):=xY underlying40 (by kernel_rfl) (by decide) (of_decide_eq_true (by kernel_rfl)) aAQ
theorem RS:ia prog 42 5 (oT bO Np.ra):=by
 intro H enc W base spare held fuel cs d ps h hw;obtain⟨hl,hf⟩:=qx underlying42 h hw;have hl':cs.length=5:=hl.trans (by kernel_rfl);clear hl
 match cs,hl' with
 | [c0,c1,c2,c3,c4],_=>
  obtain⟨n0,d0,p0,t0,w0⟩:=hf 0 _ rfl;have t0':DataW.trod enc prog W base spare held n0 26 (([c0,c1,c2,c3,c4].drop 0).take (prog.cellsOf 26))=some (d0,p0):=t0;rw[N0] at t0';have u0:DataW.trod enc prog W base spare held n0 26 [c0,c1,c2,c3]=some (d0,p0):=t0';obtain⟨n1,d1,p1,t1,w1⟩:=hf 1 _ rfl;have t1':DataW.trod enc prog W base spare held n1 40 (([c0,c1,c2,c3,c4].drop 4).take (prog.cellsOf 40))=some (d1,p1):=t1;rw[Wk] at t1';have u1:DataW.trod enc prog W base spare held n1 40 [c4]=some (d1,p1):=t1';obtain⟨_,x0,ea⟩:=RR H enc W base spare held n0 _ _ _ u0 w0;obtain⟨_,x1,v1,eC,uG⟩:=aAJ H enc W base spare held n1 _ _ _ u1 w1;obtain rfl:c4=v1:=by simpa using eC
  obtain⟨sa,va,ha,hb,hc,hd⟩:=ea;exact⟨rfl,⟨x0,x1⟩,⟨sa,va,_,ha,hb,hc,uG.both.1,by rw[List.cons.injEq,List.cons.injEq,List.cons.injEq,List.cons.injEq] at hd;obtain⟨rfl,rfl,rfl,rfl,_⟩:=hd;rfl⟩,uG.both.2⟩
theorem aAZ:ia prog 36 1 (RSl (oT bO Np.ra) 5):=xY underlying36 (by kernel_rfl) (by decide) (of_decide_eq_true (by kernel_rfl)) RS
theorem aAK:ia prog 44 2 (oT Vo NC):=by
 intro H enc W base spare held fuel cs d ps h hw;obtain⟨hl,hf⟩:=qx underlying44 h hw;have hl':cs.length=2:=hl.trans (by kernel_rfl);clear hl
 match cs,hl' with
 | [c0,c1],_=>
  obtain⟨n0,d0,p0,t0,w0⟩:=hf 0 _ rfl;have t0':DataW.trod enc prog W base spare held n0 9 (([c0,c1].drop 0).take (prog.cellsOf 9))=some (d0,p0):=t0;rw[wn] at t0';have u0:DataW.trod enc prog W base spare held n0 9 [c0]=some (d0,p0):=t0';obtain⟨n1,d1,p1,t1,w1⟩:=hf 1 _ rfl;have t1':DataW.trod enc prog W base spare held n1 36 (([c0,c1].drop 1).take (prog.cellsOf 36))=some (d1,p1):=t1;rw[Wl] at t1';have u1:DataW.trod enc prog W base spare held n1 36 [c1]=some (d1,p1):=t1';obtain⟨_,_,s0,_,ij,ea⟩:=xZ underlying9 H enc W base spare held n0 _ _ _ u0 w0;obtain rfl:c0 = .string s0:=by simpa using ea
  obtain⟨_,x1,v1,eC,uG⟩:=aAZ H enc W base spare held n1 _ _ _ u1 w1;obtain rfl:c1=v1:=by simpa using eC
  exact⟨rfl,⟨s0.data.toList,x1⟩,⟨s0,_,rfl,ij,uG.both.1,rfl⟩,uG.both.2⟩
theorem ayZ:ia prog 46 5 (oT my Nz):=by
 intro H enc W base spare held fuel cs d ps h hw;obtain⟨hl,hf⟩:=qx underlying46 h hw;have hl':cs.length=5:=hl.trans (by kernel_rfl);clear hl
 match cs,hl' with
 | [c0,c1,c2,c3,c4],_=>
  obtain⟨n0,d0,p0,t0,w0⟩:=hf 0 _ rfl;have t0':DataW.trod enc prog W base spare held n0 3 (([c0,c1,c2,c3,c4].drop 0).take (prog.cellsOf 3))=some (d0,p0):=t0;rw[iK] at t0';have u0:DataW.trod enc prog W base spare held n0 3 [c0]=some (d0,p0):=t0';obtain⟨n1,d1,p1,t1,w1⟩:=hf 1 _ rfl;have t1':DataW.trod enc prog W base spare held n1 3 (([c0,c1,c2,c3,c4].drop 1).take (prog.cellsOf 3))=some (d1,p1):=t1;rw[iK] at t1';have u1:DataW.trod enc prog W base spare held n1 3 [c1]=some (d1,p1):=t1';obtain⟨n2,d2,p2,t2,w2⟩:=hf 2 _ rfl;have t2':DataW.trod enc prog W base spare held n2 3 (([c0,c1,c2,c3,c4].drop 2).take (prog.cellsOf 3))=some (d2,p2):=t2;rw[iK] at t2';have u2:DataW.trod enc prog W base spare held n2 3 [c2]=some (d2,p2):=t2';obtain⟨n3,d3,p3,t3,w3⟩:=hf 3 _ rfl;have t3':DataW.trod enc prog W base spare held n3 44 (([c0,c1,c2,c3,c4].drop 3).take (prog.cellsOf 44))=some (d3,p3):=t3;rw[Wn] at t3';have u3:DataW.trod enc prog W base spare held n3 44 [c3,c4]=some (d3,p3):=t3';obtain⟨_,x0,ea,wf0⟩:=jY underlying3 H enc W base spare held n0 _ _ _ u0 w0;obtain rfl:c0 = .int .i64 x0:=by simpa using ea
  obtain⟨_,x1,eC,wf1⟩:=jY underlying3 H enc W base spare held n1 _ _ _ u1 w1;obtain rfl:c1 = .int .i64 x1:=by simpa using eC
  obtain⟨_,x2,lS,wf2⟩:=jY underlying3 H enc W base spare held n2 _ _ _ u2 w2;obtain rfl:c2 = .int .i64 x2:=by simpa using lS
  obtain⟨_,x3,uK⟩:=aAK H enc W base spare held n3 _ _ _ u3 w3;obtain⟨⟨sa,va,ha,hb,hc,hd⟩,hp⟩:=uK;exact⟨rfl,⟨x0,x1,x2,x3⟩,⟨sa,va,ha,hb,hc,by rw[List.cons.injEq,List.cons.injEq] at hd;obtain⟨rfl,rfl,_⟩:=hd;rfl⟩,hp⟩
theorem ayQ:ia prog 23 1 (RSl (oT my Nz) 5):=xY underlying23 (by kernel_rfl) (by decide) (of_decide_eq_true (by kernel_rfl)) ayZ
theorem azZ:ia prog 101 3 kS:=by
 intro H enc W base spare held fuel cs d ps h hw;obtain⟨hl,hf⟩:=qx underlying101 h hw;have hl':cs.length=3:=hl.trans (by kernel_rfl);clear hl
 match cs,hl' with
 | [c0,c1,c2],_=>
  obtain⟨n0,d0,p0,t0,w0⟩:=hf 0 _ rfl;have t0':DataW.trod enc prog W base spare held n0 9 (([c0,c1,c2].drop 0).take (prog.cellsOf 9))=some (d0,p0):=t0;rw[wn] at t0';have u0:DataW.trod enc prog W base spare held n0 9 [c0]=some (d0,p0):=t0';obtain⟨n1,d1,p1,t1,w1⟩:=hf 1 _ rfl;have t1':DataW.trod enc prog W base spare held n1 3 (([c0,c1,c2].drop 1).take (prog.cellsOf 3))=some (d1,p1):=t1;rw[iK] at t1';have u1:DataW.trod enc prog W base spare held n1 3 [c1]=some (d1,p1):=t1';obtain⟨n2,d2,p2,t2,w2⟩:=hf 2 _ rfl;have t2':DataW.trod enc prog W base spare held n2 3 (([c0,c1,c2].drop 2).take (prog.cellsOf 3))=some (d2,p2):=t2;rw[iK] at t2';have u2:DataW.trod enc prog W base spare held n2 3 [c2]=some (d2,p2):=t2';obtain⟨_,_,s0,_,ij,ea⟩:=xZ underlying9 H enc W base spare held n0 _ _ _ u0 w0;obtain rfl:c0 = .string s0:=by simpa using ea
  obtain⟨_,x1,eC,wf1⟩:=jY underlying3 H enc W base spare held n1 _ _ _ u1 w1;obtain rfl:c1 = .int .i64 x1:=by simpa using eC
  obtain⟨_,x2,lS,wf2⟩:=jY underlying3 H enc W base spare held n2 _ _ _ u2 w2;obtain rfl:c2 = .int .i64 x2:=by simpa using lS
  exact⟨rfl,⟨s0.data.toList,x1,x2⟩,s0,rfl,ij,rfl⟩
theorem azJ:ia prog 22 1 (RSl kS 3):=xY underlying22 (by kernel_rfl) (by decide) (of_decide_eq_true (by kernel_rfl)) azZ
theorem azK:ia prog 3 1 lF:=λH enc W base spare held fuel cs d ps h hw=>by
 obtain⟨h1,x,h2,_⟩:=jY underlying3 H enc W base spare held fuel cs d ps h hw;exact⟨h1,x,h2⟩
theorem azX:ia prog 27 1 (RSl lF 1):=xY underlying27 (by kernel_rfl) (by decide) (of_decide_eq_true (by kernel_rfl)) azK
theorem azQ:ia prog 29 9 (oT gC Np.lG):=by
 intro H enc W base spare held fuel cs d ps h hw;obtain⟨hl,hf⟩:=qx underlying29 h hw;have hl':cs.length=9:=hl.trans (by kernel_rfl);clear hl
 match cs,hl' with
 | [c0,c1,c2,c3,c4,c5,c6,c7,c8],_=>
  obtain⟨n0,d0,p0,t0,w0⟩:=hf 0 _ rfl;have t0':DataW.trod enc prog W base spare held n0 22 (([c0,c1,c2,c3,c4,c5,c6,c7,c8].drop 0).take (prog.cellsOf 22))=some (d0,p0):=t0;rw[Wi] at t0';have u0:DataW.trod enc prog W base spare held n0 22 [c0]=some (d0,p0):=t0';obtain⟨n1,d1,p1,t1,w1⟩:=hf 1 _ rfl;have t1':DataW.trod enc prog W base spare held n1 23 (([c0,c1,c2,c3,c4,c5,c6,c7,c8].drop 1).take (prog.cellsOf 23))=some (d1,p1):=t1;rw[Wf] at t1';have u1:DataW.trod enc prog W base spare held n1 23 [c1]=some (d1,p1):=t1';obtain⟨n2,d2,p2,t2,w2⟩:=hf 2 _ rfl;have t2':DataW.trod enc prog W base spare held n2 26 (([c0,c1,c2,c3,c4,c5,c6,c7,c8].drop 2).take (prog.cellsOf 26))=some (d2,p2):=t2;rw[N0] at t2';have u2:DataW.trod enc prog W base spare held n2 26 [c2,c3,c4,c5]=some (d2,p2):=t2';obtain⟨n3,d3,p3,t3,w3⟩:=hf 3 _ rfl;have t3':DataW.trod enc prog W base spare held n3 27 (([c0,c1,c2,c3,c4,c5,c6,c7,c8].drop 6).take (prog.cellsOf 27))=some (d3,p3):=t3;rw[Wj] at t3';have u3:DataW.trod enc prog W base spare held n3 27 [c6]=some (d3,p3):=t3';obtain⟨n4,d4,p4,t4,w4⟩:=hf 4 _ rfl;have t4':DataW.trod enc prog W base spare held n4 3 (([c0,c1,c2,c3,c4,c5,c6,c7,c8].drop 7).take (prog.cellsOf 3))=some (d4,p4):=t4;rw[iK] at t4';have u4:DataW.trod enc prog W base spare held n4 3 [c7]=some (d4,p4):=t4';obtain⟨n5,d5,p5,t5,w5⟩:=hf 5 _ rfl;have t5':DataW.trod enc prog W base spare held n5 3 (([c0,c1,c2,c3,c4,c5,c6,c7,c8].drop 8).take (prog.cellsOf 3))=some (d5,p5):=t5;rw[iK] at t5';have u5:DataW.trod enc prog W base spare held n5 3 [c8]=some (d5,p5):=t5';obtain⟨_,x0,v0,ea,Fa⟩:=azJ H enc W base spare held n0 _ _ _ u0 w0;obtain rfl:c0=v0:=by simpa using ea
  obtain⟨_,x1,v1,eC,uG⟩:=ayQ H enc W base spare held n1 _ _ _ u1 w1;obtain rfl:c1=v1:=by simpa using eC
  obtain⟨_,x2,lS⟩:=RR H enc W base spare held n2 _ _ _ u2 w2;obtain⟨_,x3,v3,uK,Kk⟩:=azX H enc W base spare held n3 _ _ _ u3 w3;obtain rfl:c6=v3:=by simpa using uK
  obtain⟨_,x4,Ky,wf4⟩:=jY underlying3 H enc W base spare held n4 _ _ _ u4 w4;obtain rfl:c7 = .int .i64 x4:=by simpa using Ky
  obtain⟨_,x5,Kz,wf5⟩:=jY underlying3 H enc W base spare held n5 _ _ _ u5 w5;obtain rfl:c8 = .int .i64 x5:=by simpa using Kz
  obtain⟨sa,va,ha,hb,hc,hd⟩:=lS;exact⟨rfl,⟨x0,x1,x2,x3,x4,x5⟩,⟨_,_,sa,va,_,by rw[List.cons.injEq,List.cons.injEq,List.cons.injEq,List.cons.injEq] at hd;obtain⟨rfl,rfl,rfl,rfl,_⟩:=hd;rfl,ha,hb,Fa,uG.both.1,hc,Kk⟩,uG.both.2⟩
theorem IL{α:Type}{P:Program}{t:TypeId}{sz:Nat}{R:a1Z α}{fs:Array Field}(hs:P.underlying t=some (.struct fs))(hR:ia P t sz R){H:Type}{enc:TypeId×Value->H}{W:World}{r:Reach}{base b0:Nat}{spare:Nat->Bool}{held:Bool}{v:Value}{d:DataW H}{p:List MemPlace}
 (hv:Value.okWide P W r b0 t v) (h:DataW.Trod enc P W base spare held t v d p) (hw:∀ n∈d.weights P t,n<=reachBytes):∃ (cs:List Value) (x:α),v = .agg cs.toArray/\R W W.heap.size cs x:=by
 obtain⟨cs,rfl,_⟩:=okWide_struct hs hv;obtain⟨fuel,hf⟩:=h;obtain⟨_,x,hx⟩:=hR H enc W base spare held fuel _ d p hf hw;exact⟨_,x,by simp[Value.cells],hx⟩
theorem FW{H:Type}{P:Program}{ts:List TypeId}{ds:List (DataW H)}(h:(DataW.weightsEach P ts ds).all (·<=reachBytes)=true){j:Nat}{t:TypeId}{d:DataW H}(ht:ts[j]?=some t)(hd:ds[j]?=some d):∀ n∈d.weights P t,n<=reachBytes:=
 λn hn=>by simpa using List.all_eq_true.1 h n (DataW.weights_mem_each ht hd n hn)
theorem We:prog.cellsOf 42=5:=by kernel_rfl
theorem Wh:prog.cellsOf 74=1:=by kernel_rfl
def NB(x:Np.Ent22):Prop:=Np.ra x.signed
def Vm(W:World)(B:Nat)(e:List Value)(l:List Np.Ent22):Prop:=∃ v,SlR lE 7 W B v l/\e = [v]
theorem ayY:ia prog 83 7 (oT lE NB):=by
 intro H enc W base spare held fuel cs d ps h hw;obtain⟨hl,hf⟩:=qx underlying83 h hw;have hl':cs.length=7:=hl.trans (by kernel_rfl);clear hl
 match cs,hl' with
 | [c0,c1,c2,c3,c4,c5,c6],_=>
  obtain⟨n0,d0,p0,t0,w0⟩:=hf 0 _ rfl;have t0':DataW.trod enc prog W base spare held n0 42 (([c0,c1,c2,c3,c4,c5,c6].drop 0).take (prog.cellsOf 42))=some (d0,p0):=t0;rw[We] at t0';have u0:DataW.trod enc prog W base spare held n0 42 [c0,c1,c2,c3,c4]=some (d0,p0):=t0';obtain⟨n1,d1,p1,t1,w1⟩:=hf 1 _ rfl;have t1':DataW.trod enc prog W base spare held n1 9 (([c0,c1,c2,c3,c4,c5,c6].drop 5).take (prog.cellsOf 9))=some (d1,p1):=t1;rw[wn] at t1';have u1:DataW.trod enc prog W base spare held n1 9 [c5]=some (d1,p1):=t1';obtain⟨n2,d2,p2,t2,w2⟩:=hf 2 _ rfl;have t2':DataW.trod enc prog W base spare held n2 3 (([c0,c1,c2,c3,c4,c5,c6].drop 6).take (prog.cellsOf 3))=some (d2,p2):=t2;rw[iK] at t2';have u2:DataW.trod enc prog W base spare held n2 3 [c6]=some (d2,p2):=t2';obtain⟨_,x0,ea⟩:=RS H enc W base spare held n0 _ _ _ u0 w0;obtain⟨_,_,s1,_,bK,eC⟩:=xZ underlying9 H enc W base spare held n1 _ _ _ u1 w1;obtain rfl:c5 = .string s1:=by simpa using eC
  obtain⟨_,x2,lS,wf2⟩:=jY underlying3 H enc W base spare held n2 _ _ _ u2 w2;obtain rfl:c6 = .int .i64 x2:=by simpa using lS
  obtain⟨⟨sa,va,vb,ha,hb,hc,hg,hd⟩,ZY⟩:=ea;exact⟨rfl,⟨x0,s1.data.toList,x2⟩,⟨sa,s1,va,vb,ha,hb,rfl,bK,hc,hg,by rw[List.cons.injEq,List.cons.injEq,List.cons.injEq,List.cons.injEq,List.cons.injEq] at hd;obtain⟨rfl,rfl,rfl,rfl,rfl,_⟩:=hd;rfl⟩,ZY⟩
theorem ayX:ia prog 74 1 (RSl (oT lE NB) 7):=xY underlying74 (by kernel_rfl) (by decide) (of_decide_eq_true (by kernel_rfl)) ayY
theorem axY:ia prog 76 1 (oT Vm Np.IF):=by
 intro H enc W base spare held fuel cs d ps h hw;obtain⟨hl,hf⟩:=qx underlying76 h hw;have hl':cs.length=1:=hl.trans (by kernel_rfl);clear hl
 match cs,hl' with
 | [c0],_=>
  obtain⟨n0,d0,p0,t0,w0⟩:=hf 0 _ rfl;have t0':DataW.trod enc prog W base spare held n0 74 (([c0].drop 0).take (prog.cellsOf 74))=some (d0,p0):=t0;rw[Wh] at t0';have u0:DataW.trod enc prog W base spare held n0 74 [c0]=some (d0,p0):=t0';obtain⟨_,x0,v0,ea,Fa⟩:=ayX H enc W base spare held n0 _ _ _ u0 w0;obtain rfl:c0=v0:=by simpa using ea
  exact⟨rfl,x0,⟨_,Fa.both.1,rfl⟩,Fa.both.2⟩
def Vn(_:World)(_:Nat)(e:List Value)(x:ByteArray×Int):Prop:=x.1.size<=140737488355328/\e = [.string x.1,.int .i64 x.2]
theorem azY:ia prog 31 2 Vn:=by
 intro H enc W base spare held fuel cs d ps h hw;obtain⟨hl,hf⟩:=qx underlying31 h hw;have hl':cs.length=2:=hl.trans (by kernel_rfl);clear hl
 match cs,hl' with
 | [c0,c1],_=>
  obtain⟨n0,d0,p0,t0,w0⟩:=hf 0 _ rfl;have t0':DataW.trod enc prog W base spare held n0 9 (([c0,c1].drop 0).take (prog.cellsOf 9))=some (d0,p0):=t0;rw[wn] at t0';have u0:DataW.trod enc prog W base spare held n0 9 [c0]=some (d0,p0):=t0';obtain⟨n1,d1,p1,t1,w1⟩:=hf 1 _ rfl;have t1':DataW.trod enc prog W base spare held n1 3 (([c0,c1].drop 1).take (prog.cellsOf 3))=some (d1,p1):=t1;rw[iK] at t1';have u1:DataW.trod enc prog W base spare held n1 3 [c1]=some (d1,p1):=t1';obtain⟨_,_,s0,_,ij,ea⟩:=xZ underlying9 H enc W base spare held n0 _ _ _ u0 w0;obtain rfl:c0 = .string s0:=by simpa using ea
  obtain⟨_,x1,eC,wf1⟩:=jY underlying3 H enc W base spare held n1 _ _ _ u1 w1;obtain rfl:c1 = .int .i64 x1:=by simpa using eC
  exact⟨rfl,⟨s0,x1⟩,ij,rfl⟩
end
end Go.Proofs.YtfnopgdcaanaiaaGreatDoor
