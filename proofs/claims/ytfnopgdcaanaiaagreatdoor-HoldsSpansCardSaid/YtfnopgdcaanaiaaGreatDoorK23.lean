/- Parts of the proof. No condition. -/
import Derived.Test.YtfnopgdcaanaiaaGreatDoorK19
set_option linter.all false
set_option maxRecDepth 100000
set_option maxHeartbeats 8000000
namespace Go.Proofs.YtfnopgdcaanaiaaGreatDoor
open Go.Proofs.Tryz
section
open Go.RowKit
def Np.ox(l:List Np.Signed):Prop:=l.length<=100/\∀ x∈l,x.set.data.length<=20/\x.sigs.length<=20
theorem V5(a:ByteArray)(v:Value)(l:List Np.Signed)(w:World)(hd:SlR bk 5 w w.heap.size v l) :
 Calls prog 72 #[.agg #[.string a,v]] w λe w'=>e = .returned (.bool (Np.yes (Np.ox l)))/\Below w.heap.size w w':=by
 obtain⟨r,hr⟩:∃ r,Np.yes (Np.ox l)=r:=⟨_,rfl⟩;rw[hr];have HR:=jq hr;have HD:=jq hd;obtain⟨A,c,rfl,bD,bL⟩:=al hd;clear hr hd;obtain⟨X,hX⟩:∃ X,w.heap.size=X:=⟨_,rfl⟩;obtain⟨n,hn⟩:∃ n,l.length=n:=⟨_,rfl⟩;rw[hn] at HD bD bL |-;have ga:=jq hn;clear hn;obtain⟨W1,an⟩:∃ W1,w.alloc (.cells #[.string a,.slice A n c] 44)=W1:=⟨_,rfl⟩;have aL:Below w.heap.size w W1:=by rw[<-an];exact (vQ _ _).alloc (bQ _) _
 have kP:W1.heap.size=w.heap.size+1:=by rw[<-an];simp
 have k1:W1.cell? ⟨X,1,none⟩=some (.slice A n c):=by rw[<-an,<-hX];simp[go_sem]
 rw[hX] at aL kP HD |-;have aU:=jq aL;clear aL;go_enter func72,ntmps72;go_wp2_with fail;clear an hX;go_loopw [3] (λi wr=>∃ (k:Nat),k<=n/\k<=101/\i = .int .i64 k/\Hid (Below (X+1) W1 wr)/\Hid (∀ x∈l.take k,x.set.data.length<=20/\x.sigs.length<=20)) (λi _=>n - (intOf i).toNat)
 case atStart=>exact⟨0,jQ _,jQ _,rfl,jq (vQ _ _),jq (by simp)⟩
 case round=>
  obtain⟨k,hk,aVJ,rfl,bH,HQ⟩:=hrel;have HB:=jq (aU.out.trans (bH.out.mono (by omega)));have q1:=(cl bH.out (by omega)).trans k1;have ap:=bH.out.size;by_cases aa:k<n
  ·by_cases aOX:k<=100
   ·have Xx:decide ((k:Int)<=100)=true:=uQ (by omega);obtain⟨x,ab⟩:∃ x,l[k]?=some x:=⟨_,aQ (by rw[ga.out];exact aa)⟩;obtain⟨b,o,c',sn,dv,sv,hA,bU,_,aF,cx,aV,aR,f0,f1,f2,f3,f4⟩:=eV (HD.out.keep ba HB.out) ab
    cases hA
    obtain⟨Ad,cd,rfl,_,_⟩:=al aV;obtain⟨As,cs,rfl,_,_⟩:=al aR;obtain⟨nd,p9⟩:∃ n,x.set.data.length=n:=⟨_,rfl⟩;obtain⟨ns,En⟩:∃ n,x.sigs.length=n:=⟨_,rfl⟩;rw[p9] at f3;rw[En] at f4;have HF:Hid (¬ (nd<=20/\ns<=20)->r=false):=jq (λh=>by
     rw[<-HR.out,<-p9,<-En] at *;exact Np.aN λq=>h (q.2 x (gQ ab)))
    have uF:Hid (nd<=20/\ns<=20->∀ x∈l.take (k+1),x.set.data.length<=20/\x.sigs.length<=20):=jq (λh y hy=>by
     obtain⟨hl,he⟩:=cQ.1 ab;rw[fQ hl,he] at hy;rcases List.mem_append.1 hy with hy | hy
     ·exact HQ.out y hy
     ·rw[List.mem_singleton] at hy;subst hy;rw[p9,En];exact h)
    clear ab aF aV aR p9 En;by_cases g1:20<nd
    ·have d1:decide (20<(nd:Int))=true:=uQ (by omega);have HX:=jq (HF.out (by omega));clear g1;go_wp2_with fail;go_ret;exact⟨ag HX.out.symm,HB.out⟩
    ·have d1:decide (20<(nd:Int))=false:=tQ (by omega);by_cases g2:20<ns
     ·have d2:decide (20<(ns:Int))=true:=uQ (by omega);have HX:=jq (HF.out (by omega));clear g1 g2;go_wp2_with fail;go_ret;exact⟨ag HX.out.symm,HB.out⟩
     ·have d2:decide (20<(ns:Int))=false:=tQ (by omega);have HX:=jq (uF.out (by omega));clear g1 g2;go_wp2_with fail;go_roundw
      case rel=>exact⟨k+1,by omega,by omega,by go_num,bH,HX⟩
      case measure=>simp[intOf] <;> omega
   ·have Xx:decide ((k:Int)<=100)=false:=tQ (by omega);have pW:decide ((n:Int)<=100)=false:=tQ (by omega);have HX:Hid (r=false):=jq (by rw[<-HR.out];exact Np.aN λq=>by have:=q.1;rw[ga.out] at this;omega);go_wp2_with fail;go_ret;exact⟨ag HX.out.symm,HB.out⟩
  ·have TP:Hid (∀ x∈l,x.set.data.length<=20/\x.sigs.length<=20):=jq (by have:=HQ.out;rwa [kQ (by rw[ga.out];omega)] at this);by_cases Yi:n<=100
   ·have pW:decide ((n:Int)<=100)=true:=uQ (by omega);have HX:Hid (r=true):=jq (by rw[<-HR.out];exact Np.bO ⟨by rw[ga.out];exact Yi,TP.out⟩);go_wp2_with fail;go_ret;exact⟨ag HX.out.symm,HB.out⟩
   ·have pW:decide ((n:Int)<=100)=false:=tQ (by omega);have HX:Hid (r=false):=jq (by rw[<-HR.out];exact Np.aN λq=>by have:=q.1;rw[ga.out] at this;omega);go_wp2_with fail;go_ret;exact⟨ag HX.out.symm,HB.out⟩
end
end Go.Proofs.YtfnopgdcaanaiaaGreatDoor
