/- Parts of the proof. No condition. -/
import Derived.Test.YtfnopgdcaanaiaaGreatDoorH22
set_option linter.all false
set_option maxRecDepth 100000
set_option maxHeartbeats 8000000
namespace Go.Proofs.YtfnopgdcaanaiaaGreatDoor
open Go.Proofs.Tryz
section
open Go.RowKit
def Np.mN(l:List Np.Signed):Prop:=l.length<=100/\∀ x∈l,x.set.data.length<=20/\x.sigs.length<=20
theorem Sn(a:ByteArray)(v:Value)(l:List Np.Signed)(w:World)(hd:SlR bh 5 w w.heap.size v l) :
 Calls prog 72 #[.agg #[.string a,v]] w λe w'=>e = .returned (.bool (Np.yes (Np.mN l)))/\Below w.heap.size w w':=by
 obtain⟨r,hr⟩:∃ r,Np.yes (Np.mN l)=r:=⟨_,rfl⟩;rw[hr];have HR:=jq hr;have HD:=jq hd;obtain⟨A,c,rfl,bw,bT⟩:=al hd;clear hr hd;obtain⟨X,hX⟩:∃ X,w.heap.size=X:=⟨_,rfl⟩;obtain⟨n,hn⟩:∃ n,l.length=n:=⟨_,rfl⟩;rw[hn] at HD bw bT |-;have fJ:=jq hn;clear hn;obtain⟨W1,ap⟩:∃ W1,w.alloc (.cells #[.string a,.slice A n c] 44)=W1:=⟨_,rfl⟩;have aG:Below w.heap.size w W1:=by rw[<-ap];exact (vQ _ _).alloc (bQ _) _
 have kJ:W1.heap.size=w.heap.size+1:=by rw[<-ap];simp
 have k1:W1.cell? ⟨X,1,none⟩=some (.slice A n c):=by rw[<-ap,<-hX];simp[go_sem]
 rw[hX] at aG kJ HD |-;have aP:=jq aG;clear aG;go_enter func72,ntmps72;go_wp2_with fail;clear ap hX;go_loopw [3] (λi wr=>∃ (k:Nat),k<=n/\k<=101/\i = .int .i64 k/\Hid (Below (X+1) W1 wr)/\Hid (∀ x∈l.take k,x.set.data.length<=20/\x.sigs.length<=20)) (λi _=>n - (intOf i).toNat)
 case atStart=>exact⟨0,jQ _,jQ _,rfl,jq (vQ _ _),jq (by simp)⟩
 case round=>
  obtain⟨k,hk,aiZ,rfl,bD,HQ⟩:=hrel;have HB:=jq (aP.out.trans (bD.out.mono (by omega)));have q1:=(cl bD.out (by omega)).trans k1;have an:=bD.out.size;by_cases aa:k<n
  ·by_cases acQ:k<=100
   ·have TL:decide ((k:Int)<=100)=true:=uQ (by omega);obtain⟨x,ab⟩:∃ x,l[k]?=some x:=⟨_,aQ (by rw[fJ.out];exact aa)⟩;obtain⟨b,o,c',sn,dv,sv,hA,bJ,_,ay,cw,aW,aM,f0,f1,f2,f3,f4⟩:=eq (HD.out.keep aX HB.out) ab
    cases hA
    obtain⟨Ad,cd,rfl,_,_⟩:=al aW;obtain⟨As,cs,rfl,_,_⟩:=al aM;obtain⟨nd,oz⟩:∃ n,x.set.data.length=n:=⟨_,rfl⟩;obtain⟨ns,BJ⟩:∃ n,x.sigs.length=n:=⟨_,rfl⟩;rw[oz] at f3;rw[BJ] at f4;have HF:Hid (¬ (nd<=20/\ns<=20)->r=false):=jq (λh=>by
     rw[<-HR.out,<-oz,<-BJ] at *;exact Np.aF λq=>h (q.2 x (gQ ab)))
    have sC:Hid (nd<=20/\ns<=20->∀ x∈l.take (k+1),x.set.data.length<=20/\x.sigs.length<=20):=jq (λh y hy=>by
     obtain⟨hl,he⟩:=cQ.1 ab;rw[fQ hl,he] at hy;rcases List.mem_append.1 hy with hy | hy
     ·exact HQ.out y hy
     ·rw[List.mem_singleton] at hy;subst hy;rw[oz,BJ];exact h)
    clear ab ay aW aM oz BJ;by_cases g1:20<nd
    ·have d1:decide (20<(nd:Int))=true:=uQ (by omega);have HX:=jq (HF.out (by omega));clear g1;go_wp2_with fail;go_ret;exact⟨ae HX.out.symm,HB.out⟩
    ·have d1:decide (20<(nd:Int))=false:=tQ (by omega);by_cases g2:20<ns
     ·have d2:decide (20<(ns:Int))=true:=uQ (by omega);have HX:=jq (HF.out (by omega));clear g1 g2;go_wp2_with fail;go_ret;exact⟨ae HX.out.symm,HB.out⟩
     ·have d2:decide (20<(ns:Int))=false:=tQ (by omega);have HX:=jq (sC.out (by omega));clear g1 g2;go_wp2_with fail;go_roundw
      case rel=>exact⟨k+1,by omega,by omega,by go_num,bD,HX⟩
      case measure=>simp[intOf] <;> omega
   ·have TL:decide ((k:Int)<=100)=false:=tQ (by omega);have uR:decide ((n:Int)<=100)=false:=tQ (by omega);have HX:Hid (r=false):=jq (by rw[<-HR.out];exact Np.aF λq=>by have:=q.1;rw[fJ.out] at this;omega);go_wp2_with fail;go_ret;exact⟨ae HX.out.symm,HB.out⟩
  ·have Qe:Hid (∀ x∈l,x.set.data.length<=20/\x.sigs.length<=20):=jq (by have:=HQ.out;rwa [kQ (by rw[fJ.out];omega)] at this);by_cases Uv:n<=100
   ·have uR:decide ((n:Int)<=100)=true:=uQ (by omega);have HX:Hid (r=true):=jq (by rw[<-HR.out];exact Np.bB ⟨by rw[fJ.out];exact Uv,Qe.out⟩);go_wp2_with fail;go_ret;exact⟨ae HX.out.symm,HB.out⟩
   ·have uR:decide ((n:Int)<=100)=false:=tQ (by omega);have HX:Hid (r=false):=jq (by rw[<-HR.out];exact Np.aF λq=>by have:=q.1;rw[fJ.out] at this;omega);go_wp2_with fail;go_ret;exact⟨ae HX.out.symm,HB.out⟩
end
end Go.Proofs.YtfnopgdcaanaiaaGreatDoor
