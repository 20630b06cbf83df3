/- No condition. -/
import Derived.Test.YtadhigmjilijcaaGreatDoorA23
import Derived.Test.YtadhigmjilijcaaGreatDoorA25
set_option linter.all false
set_option maxRecDepth 100000
set_option maxHeartbeats 8000000
namespace Go.Proofs.YtadhigmjilijcaaGreatDoor
open Go.Proofs.Tryz
section
open Go.RowKit

theorem DU(u v:Value)(xs:List Np.Signed)(w:World)(hu:SlR aB 5 w w.heap.size u xs)(hv:SlR aB 5 w w.heap.size v xs) :
 Calls prog 16 #[u,v] w (aUQ w.heap.size w (.bool true)):=by
 have HU:=jq hu;have HV:=jq hv;obtain⟨A,c,rfl,bi,fD⟩:=fc hu;obtain⟨A2,c2,rfl,dR,i5⟩:=fc hv;clear hu hv;have pT:((xs.length:Int) != (xs.length:Int))=false:=by simp
 go_enter func16,ntmps16;go_wp2_with fail;go_loopw [5] (λi wr=>∃ k:Nat,k<=xs.length/\i = .int .i64 k/\Hid (Below w.heap.size w wr)) (λi _=>xs.length - (intOf i).toNat)
 case atStart=>exact⟨0,jQ _,rfl,jq (vQ _ _)⟩
 case round=>
  obtain⟨k,hk,rfl,HB⟩:=hrel;by_cases af:k<xs.length
  ·obtain⟨b,o,c',s,dv,sv,hA,hb,_,hs,au,bZ,cx,e0,e1,e2,e3,e4⟩:=mE (HU.out.later az bf HB.out) (aQ af)
   cases hA
   obtain⟨b2,o2,c2',s',dv',sv',hA,ag,_,hs',ZH,Gz,G5,f0,f1,f2,f3,f4⟩:=mE (HV.out.later az bf HB.out) (aQ af);simp only[Value.slice.injEq] at hA;obtain⟨rfl,_,rfl⟩:=hA;have eX:s'=s:=mF (by rw[hs,hs']);subst eX;generalize xs[k]=x at *;have gh:=jq bZ;have RR:=jq Gz;have iO:=jq cx;have T3:=jq G5;obtain⟨S1,m1,rfl,_,_⟩:=fc cx;obtain⟨S2,m2,rfl,_,_⟩:=fc G5;obtain⟨D1,n1,rfl,_,_⟩:=fc bZ;obtain⟨D2,n2,rfl,_,_⟩:=fc Gz;have dS:=kNN k;have dp:(k:Int)<(xs.length:Int):=by omega
   have wR:∀ (g:bA wr) (p:Addr),p.block<wr.heap.size->g.w.cell? p=wr.cell? p:=λg p h=>g.cell p h;have cO:∀ g:bA wr,Calls prog 25 #[.agg #[.string s',.int .i64 x.set.type,.int .i64 x.set.life,.slice D1 x.set.data.length n1,.slice S1 x.sigs.length m1],.agg #[.string s',.int .i64 x.set.type,.int .i64 x.set.life,.slice D2 x.set.data.length n2,.slice S2 x.sigs.length m2]] g.w λe w'=>e = .returned (.bool true)/\Below g.w.heap.size g.w w':=λg=>
    (Qk s' s' _ _ _ _ _ _ _ _ x.set.data x.set.data x.sigs x.sigs g.w (gh.out.later br bB g.below) (RR.out.later br bB g.below) (iO.out.later cK da g.below) (T3.out.later cK da g.below)).mono λe w' h=>⟨by rw[h.1];simp,h.2⟩
   have vE:=jq cO;clear cO hs hs' cx G5 bZ Gz au ZH;go_wp2_with fail;refine aTX ?_
   repeat (go_big_quiet_step ((go_at_call 25;exact Calls.grow_of (vE.out _))))
   refine wpQuiet_nil ?_;rintro _ ⟨g,rfl⟩;go_wp2_with fail;go_roundw
   case rel=>exact⟨k+1,by omega,by go_num,jq (HB.out.trans (g.below.mono HB.out.size))⟩
   ·simp[intOf]<;>omega
  ·go_wp2_with fail;go_ret;exact⟨rfl,HB.out⟩
end
end Go.Proofs.YtadhigmjilijcaaGreatDoor
