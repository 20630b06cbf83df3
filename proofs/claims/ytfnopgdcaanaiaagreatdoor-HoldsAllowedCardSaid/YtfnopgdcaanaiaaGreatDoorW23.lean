/- Parts of the proof. No condition. -/
import Derived.Test.YtfnopgdcaanaiaaGreatDoorW17
import Derived.Test.YtfnopgdcaanaiaaGreatDoorW18
set_option linter.all false
set_option maxRecDepth 100000
set_option maxHeartbeats 8000000
namespace Go.Proofs.YtfnopgdcaanaiaaGreatDoor
open Go.Proofs.Tryz
section
open Go.ChangeShapes Go.WideShapes Go.ChangeAt Go.RowKit Go.Deep
theorem TT:prog.cellsOf 42=5:=by kernel_rfl
theorem TW:prog.cellsOf 74=1:=by kernel_rfl
def LC(x:Np.Ent22):Prop:=Np.qr x.signed
def S9(W:World)(B:Nat)(e:List Value)(l:List Np.Ent22):Prop:=∃ v,SlR cH 7 W B v l/\e = [v]
theorem acZ:gO prog 83 7 (oy cH LC):=by
 intro H enc W base spare held fuel cs d ps h hw;obtain⟨hl,hf⟩:=qS underlying83 h hw;have hl':cs.length=7:=hl.trans (by kernel_rfl);clear hl
 match cs,hl' with
 | [c0,c1,c2,c3,c4,c5,c6],_=>
  obtain⟨n0,d0,p0,t0,w0⟩:=hf 0 _ rfl;have t0':DataW.trod enc prog W base spare held n0 42 (([c0,c1,c2,c3,c4,c5,c6].drop 0).take (prog.cellsOf 42))=some (d0,p0):=t0;rw[TT] at t0';have u0:DataW.trod enc prog W base spare held n0 42 [c0,c1,c2,c3,c4]=some (d0,p0):=t0';obtain⟨n1,d1,p1,t1,w1⟩:=hf 1 _ rfl;have t1':DataW.trod enc prog W base spare held n1 9 (([c0,c1,c2,c3,c4,c5,c6].drop 5).take (prog.cellsOf 9))=some (d1,p1):=t1;rw[xI] at t1';have u1:DataW.trod enc prog W base spare held n1 9 [c5]=some (d1,p1):=t1';obtain⟨n2,d2,p2,t2,w2⟩:=hf 2 _ rfl;have t2':DataW.trod enc prog W base spare held n2 3 (([c0,c1,c2,c3,c4,c5,c6].drop 6).take (prog.cellsOf 3))=some (d2,p2):=t2;rw[iD] at t2';have u2:DataW.trod enc prog W base spare held n2 3 [c6]=some (d2,p2):=t2';obtain⟨_,x0,dX⟩:=PC H enc W base spare held n0 _ _ _ u0 w0;obtain⟨_,_,s1,_,bp,ej⟩:=yv underlying9 H enc W base spare held n1 _ _ _ u1 w1;obtain rfl:c5 = .string s1:=by simpa using ej
  obtain⟨_,x2,mG,wf2⟩:=jU underlying3 H enc W base spare held n2 _ _ _ u2 w2;obtain rfl:c6 = .int .i64 x2:=by simpa using mG
  obtain⟨⟨sa,va,vb,ha,hb,hc,hg,hd⟩,XF⟩:=dX;exact⟨rfl,⟨x0,s1.data.toList,x2⟩,⟨sa,s1,va,vb,ha,hb,rfl,bp,hc,hg,by rw[List.cons.injEq,List.cons.injEq,List.cons.injEq,List.cons.injEq,List.cons.injEq] at hd;obtain⟨rfl,rfl,rfl,rfl,rfl,_⟩:=hd;rfl⟩,XF⟩
theorem acQ:gO prog 74 1 (RSl (oy cH LC) 7):=wD underlying74 (by kernel_rfl) (by decide) (of_decide_eq_true (by kernel_rfl)) acZ
theorem abZ:gO prog 76 1 (oy S9 Np.Gx):=by
 intro H enc W base spare held fuel cs d ps h hw;obtain⟨hl,hf⟩:=qS underlying76 h hw;have hl':cs.length=1:=hl.trans (by kernel_rfl);clear hl
 match cs,hl' with
 | [c0],_=>
  obtain⟨n0,d0,p0,t0,w0⟩:=hf 0 _ rfl;have t0':DataW.trod enc prog W base spare held n0 74 (([c0].drop 0).take (prog.cellsOf 74))=some (d0,p0):=t0;rw[TW] at t0';have u0:DataW.trod enc prog W base spare held n0 74 [c0]=some (d0,p0):=t0';obtain⟨_,x0,v0,dX,DX⟩:=acQ H enc W base spare held n0 _ _ _ u0 w0;obtain rfl:c0=v0:=by simpa using dX
  exact⟨rfl,x0,⟨_,DX.both.1,rfl⟩,DX.both.2⟩
end
end Go.Proofs.YtfnopgdcaanaiaaGreatDoor
