/- Parts of the proof. No condition. -/
import Derived.Test.YtbfbobfbgabjiaaGreatDoorP22
set_option linter.all false
set_option maxRecDepth 100000
set_option maxHeartbeats 8000000
namespace Go.Proofs.YtbfbobfbgabjiaaGreatDoor
open Go.Proofs.Tryz
section
open Go.RowKit
def Np.oU(l:List Np.Signed):Prop:=l.length<=100/\∀ x∈l,x.set.data.length<=20/\x.sigs.length<=20
theorem WQ(a:ByteArray)(v:Value)(l:List Np.Signed)(w:World)(hd:SlR bC 5 w w.heap.size v l) :
 Calls prog 41 #[.agg #[.string a,v]] w λe w'=>e = .returned (.bool (Np.yes (Np.oU l)))/\Below w.heap.size w w':=by
 obtain⟨r,hr⟩:∃ r,Np.yes (Np.oU l)=r:=⟨_,rfl⟩;rw[hr];have HR:=jq hr;have HD:=jq hd;obtain⟨A,c,rfl,aV,bi⟩:=ah hd;clear hr hd;obtain⟨X,hX⟩:∃ X,w.heap.size=X:=⟨_,rfl⟩;obtain⟨n,hn⟩:∃ n,l.length=n:=⟨_,rfl⟩;rw[hn] at HD aV bi |-;have gl:=jq hn;clear hn;obtain⟨W1,ai⟩:∃ W1,w.alloc (.cells #[.string a,.slice A n c] 56)=W1:=⟨_,rfl⟩;have aG:Below w.heap.size w W1:=by rw[<-ai]; exact (vQ _ _).alloc (bQ _) _
 have jA:W1.heap.size=w.heap.size+1:=by rw[<-ai]; simp
 have k1:W1.cell? ⟨X,1,none⟩=some (.slice A n c):=by rw[<-ai,<-hX]; simp[go_sem]
 rw[hX] at aG jA HD |-;have aB:=jq aG;clear aG;go_enter func41,ntmps41;go_wp2_with fail;clear ai hX;go_loopw [3] (λi wr=>∃ (k:Nat),k<=n/\k<=101/\i = .int .i64 k/\Hid (Below (X+1) W1 wr)/\Hid (∀ x∈l.take k,x.set.data.length<=20/\x.sigs.length<=20)) (λi _=>n - (intOf i).toNat)
 case atStart=>exact⟨0,jQ _,jQ _,rfl,jq (vQ _ _),jq (by simp)⟩
 case round=>
  obtain⟨k,hk,a0X,rfl,bO,HQ⟩:=hrel;have HB:=jq (aB.out.trans (bO.out.mono (by omega)));have q1:=(cl bO.out (by omega)).trans k1;have am:=bO.out.size;by_cases aa:k<n
  ·by_cases aUQ:k<=100
   ·have Yp:decide ((k:Int)<=100)=true:=uQ (by omega);obtain⟨x,ac⟩:∃ x,l[k]?=some x:=⟨_,aQ (by rw[gl.out]; exact aa)⟩;obtain⟨b,o,c',sn,dv,sv,hA,bS,_,av,cA,aL,ax,f0,f1,f2,f3,f4⟩:=eE (HD.out.keep aN HB.out) ac
    cases hA
    obtain⟨Ad,cd,rfl,_,_⟩:=ah aL;obtain⟨As,cs,rfl,_,_⟩:=ah ax;obtain⟨nd,pJ⟩:∃ n,x.set.data.length=n:=⟨_,rfl⟩;obtain⟨ns,EC⟩:∃ n,x.sigs.length=n:=⟨_,rfl⟩;rw[pJ] at f3;rw[EC] at f4;have HF:Hid (¬ (nd<=20/\ns<=20)->r=false):=jq (λh=>by
     rw[<-HR.out,<-pJ,<-EC] at *;exact Np.aJ λq=>h (q.2 x (gQ ac)))
    have ve:Hid (nd<=20/\ns<=20->∀ x∈l.take (k+1),x.set.data.length<=20/\x.sigs.length<=20):=jq (λh y hy=>by
     obtain⟨hl,he⟩:=cQ.1 ac;rw[fQ hl,he] at hy;rcases List.mem_append.1 hy with hy | hy
     ·exact HQ.out y hy
     ·rw[List.mem_singleton] at hy; subst hy; rw[pJ,EC]; exact h)
    clear ac av aL ax pJ EC;by_cases g1:20<nd
    ·have d1:decide (20<(nd:Int))=true:=uQ (by omega);have HX:=jq (HF.out (by omega));clear g1;go_wp2_with fail;go_ret;exact⟨ae HX.out.symm,HB.out⟩
    ·have d1:decide (20<(nd:Int))=false:=tQ (by omega);by_cases g2:20<ns
     ·have d2:decide (20<(ns:Int))=true:=uQ (by omega);have HX:=jq (HF.out (by omega));clear g1 g2;go_wp2_with fail;go_ret;exact⟨ae HX.out.symm,HB.out⟩
     ·have d2:decide (20<(ns:Int))=false:=tQ (by omega);have HX:=jq (ve.out (by omega));clear g1 g2;go_wp2_with fail;go_roundw
      case rel=>exact⟨k+1,by omega,by omega,by go_num,bO,HX⟩
      case measure=>simp[intOf] <;> omega
   ·have Yp:decide ((k:Int)<=100)=false:=tQ (by omega);have qy:decide ((n:Int)<=100)=false:=tQ (by omega);have HX:Hid (r=false):=jq (by rw[<-HR.out]; exact Np.aJ λq=>by have:=q.1; rw[gl.out] at this; omega);go_wp2_with fail;go_ret;exact⟨ae HX.out.symm,HB.out⟩
  ·have Uo:Hid (∀ x∈l,x.set.data.length<=20/\x.sigs.length<=20):=jq (by have:=HQ.out; rwa [kQ (by rw[gl.out]; omega)] at this);by_cases Y5:n<=100
   ·have qy:decide ((n:Int)<=100)=true:=uQ (by omega);have HX:Hid (r=true):=jq (by rw[<-HR.out]; exact Np.bM ⟨by rw[gl.out]; exact Y5,Uo.out⟩);go_wp2_with fail;go_ret;exact⟨ae HX.out.symm,HB.out⟩
   ·have qy:decide ((n:Int)<=100)=false:=tQ (by omega);have HX:Hid (r=false):=jq (by rw[<-HR.out]; exact Np.aJ λq=>by have:=q.1; rw[gl.out] at this; omega);go_wp2_with fail;go_ret;exact⟨ae HX.out.symm,HB.out⟩
end
end Go.Proofs.YtbfbobfbgabjiaaGreatDoor
