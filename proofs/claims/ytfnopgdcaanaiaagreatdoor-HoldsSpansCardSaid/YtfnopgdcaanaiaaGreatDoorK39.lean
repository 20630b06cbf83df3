/- Parts of the proof. No condition. -/
import Derived.Test.YtfnopgdcaanaiaaGreatDoorK37
set_option linter.all false
set_option maxRecDepth 100000
set_option maxHeartbeats 8000000
namespace Go.Proofs.YtfnopgdcaanaiaaGreatDoor
open Go.Proofs.Tryz
section
open Go.RowKit
theorem Np.Rj:∀ (l:List Np.Span) (p:Option Int),Np.sm p l=true->∀ (k:Nat) (s:Np.Span),l[k]?=some s->(0<=s.frm/\s.frm<s.til/\s.til<=20000000)/\∀ m q,k=m+1->l[m]?=some q->q.til<s.frm
 | [],_,_,k,s,h=>by simp at h
 | x::r,p,h,0,s,hs=>by
   rw[List.getElem?_cons_zero,Option.some.injEq] at hs;subst hs;unfold Np.sm Np.Cz at h;simp only[Bool.and_eq_true,Qa] at h;exact⟨⟨h.1.1,h.1.2.1,h.1.2.2.1⟩,λm q hm=>by omega⟩
 | x::r,p,h,k+1,s,hs=>by
   unfold Np.sm at h;rw[Bool.and_eq_true] at h;rw[List.getElem?_cons_succ] at hs;obtain⟨h1,h2⟩:=Np.Rj r (some x.til) h.2 k s hs;refine⟨h1,λm q hm hq=>?_⟩;obtain rfl:k=m:=by omega
   cases k with
   | zero=>
    rw[List.getElem?_cons_zero,Option.some.injEq] at hq;subst hq
    cases r with
    | nil=>simp at hs
    | cons y r=>
     rw[List.getElem?_cons_zero,Option.some.injEq] at hs;subst hs;have h3:=h.2;unfold Np.sm Np.Cz at h3;simp only[Bool.and_eq_true,Qa] at h3;exact h3.1.2.2.2
   | succ k=>
    rw[List.getElem?_cons_succ] at hq;exact h2 k q rfl hq
theorem QN(A:Option Addr)(n c:Nat)(l:List Np.Span)(hl:Np.y9 l=true)(w:World)(h:SlR cV 2 w w.heap.size (.slice A n c) l) :
 Calls prog 22 #[.slice A n c] w λe w'=>e = .returned (.bool true)/\Below w.heap.size w w':=by
 unfold Np.y9 at hl;rw[Bool.and_eq_true,Qa] at hl;have hn:l.length=n:=JT h;have HN:=jq hn;have bJ:n<=20000:=by omega
 have HA:=jq (Np.Rj l none hl.2);have HL:=jq h;have mb:n<=c:=by
  obtain⟨A',c',h1,h2,_⟩:=al h;simp only[Value.slice.injEq] at h1;omega
 clear hl hn h;go_enter func22,ntmps22;go_wp2_with fail;go_loopw [3] (λi wr=>∃ k:Nat,k<=n/\i = .int .i64 k/\Hid (Below w.heap.size w wr)) (λi _=>n - (intOf i).toNat)
 case atStart=>exact⟨0,jQ _,rfl,jq (vQ _ _)⟩
 case round=>
  obtain⟨k,hk,rfl,HB⟩:=hrel;by_cases aa:k<n
  ·obtain⟨x,ab⟩:∃ x,l[k]?=some x:=⟨_,aQ (by rw[HN.out];exact aa)⟩;have dz:=HL.out.keep dT HB.out;obtain⟨b,o,rfl⟩:=t8 (k:=k) dz (by rw[HN.out];exact aa);obtain⟨bC,hat⟩:=qr dz ab;obtain⟨⟨g1,g2,g3⟩,g4⟩:=HA.out k x ab;have h0:=hat.c0;have h1:=hat.c1;have d1:decide (x.frm<0)=false:=tQ (by omega);have d2:decide (x.til<=x.frm)=false:=tQ (by omega);have d3:decide (20000000<x.til)=false:=tQ (by omega);have bX:(0:Int)<=(k:Int):=by omega
   have bW:(k:Int)<(n:Int):=by omega
   have dw:=jq HB.out;by_cases Ok:0<k
   ·obtain⟨m,rfl⟩:∃ m,k=m+1:=⟨k - 1,by omega⟩;obtain⟨y,hy⟩:∃ y,l[m]?=some y:=⟨_,aQ (by rw[HN.out];omega)⟩;obtain⟨_,NF⟩:=qr dz hy;have p1:=NF.c1;have d4:decide (x.frm<=y.til)=false:=tQ (by have:=g4 m y rfl hy;omega);have iU:decide ((0:Int)<((m+1:Nat):Int))=true:=by simp
    have IY:(((m+1:Nat):Int) - 1)=(m:Int):=by omega
    clear dz hat NF ab hy g4 g1 g2 g3 Ok;go_wp2_with fail;go_quiet (fail);go_wp2_with fail;go_roundw
    case rel=>exact⟨m+1+1,by omega,by go_num,jq (below_drewN dw.out _)⟩
    case measure=>simp[intOf] <;> omega
   ·have iU:decide ((0:Int)<(k:Int))=false:=by simp;omega
    have ie:decide (0<k)=false:=by simp;omega
    clear dz hat ab g4 g1 g2 g3 Ok;go_wp2_with fail;go_quiet (fail);go_wp2_with fail;go_roundw
    case rel=>exact⟨k+1,by omega,by go_num,jq (below_drewN dw.out _)⟩
    case measure=>simp[intOf] <;> omega
  ·have d:decide ((n:Int)<=20000)=true:=uQ (by omega);go_wp2_with fail;exact bodyPost_ret (v:=.bool true) (by simp[results,results22,go_sem];try omega) rfl ⟨rfl,HB.out⟩
end
end Go.Proofs.YtfnopgdcaanaiaaGreatDoor
