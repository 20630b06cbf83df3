/- No condition. -/
import Derived.Test.YtadhigmjilijcaaGreatDoorA06
import Derived.Test.YtadhigmjilijcaaGreatDoorA09
set_option linter.all false
set_option maxRecDepth 100000
set_option maxHeartbeats 8000000
namespace Go.Proofs.YtadhigmjilijcaaGreatDoor
open Go.Proofs.Tryz
section
open Go.RowKit



theorem amJ(a b:ByteArray)(n1 n2 n3 n4 m1 m2 m3 m4:Int)(s1 s2:Int)(w:World):(binOp .neq 56 (.agg #[.string a,.int .i64 n1,.int .i64 n2,.int .i64 n3,.int .i64 n4,.int .u64 s1]) (.agg #[.string b,.int .i64 m1,.int .i64 m2,.int .i64 m3,.int .i64 m4,.int .u64 s2])).run prog w = .ok (.bool (!(a.toList == b.toList&&(n1 == m1&&(n2 == m2&&(n3 == m3&&(n4 == m4&&s1 == s2))))))) w:=by
 have u3:=underlying3;have a3:=isAgg3;have z3:=sizeOf3;have u9:=underlying9;have a9:=isAgg9;have z9:=sizeOf9;have u8:=underlying54;have a8:=isAgg54;have z8:=sizeOf54;have hS:prog.underlying 56=some (.struct (prog.fieldsOf 56)):=by kernel_rfl
 have hp:prog.stoodInHeld 56=false:=by kernel_rfl
 rw[run_neq_struct,show (10000:Nat)=9999+1 from rfl,run_equalIn_agg w 9999 56 _ _ hS hp];simp only[Program.fieldsOf,underlying56];go_simp;by_cases h0:a.toList=b.toList<;>by_cases h1:n1=m1<;>by_cases h2:n2=m2<;>by_cases h3:n3=m3<;>by_cases h4:n4=m4<;>by_cases h5:s1=s2<;>simp[h0,h1,h2,h3,h4,h5]
theorem azZ{x y:Np.Sig}{a b:ByteArray}(ha:a.data.toList=x.zone)(hb:b.data.toList=y.zone):(!(a.toList == b.toList&&(x.key == y.key&&(x.alg == y.alg&&(x.frm == y.frm&&(x.til == y.til&&x.sum == y.sum))))))=decide (x≠y):=by
 rw[dQ,dQ,ha,hb];obtain⟨z,k,g,f,t,m⟩:=x;obtain⟨z',k',g',f',t',m'⟩:=y;simp only[ne_eq,Np.Sig.mk.injEq];by_cases h0:z=z'<;>by_cases h1:k=k'<;>by_cases h2:g=g'<;>by_cases h3:f=f'<;>by_cases h4:t=t'<;>by_cases h5:m=m'<;>simp[h0,h1,h2,h3,h4,h5]
theorem Qk(s1 s2:ByteArray)(t1 l1 t2 l2:Int)(v1 v2 u1 u2:Value)(d1 d2:List Np.Datum)(g1 g2:List Np.Sig)(w:World)(fw:SlR bS 3 w w.heap.size v1 d1)(fS:SlR bS 3 w w.heap.size v2 d2)(cR:SlR dw 6 w w.heap.size u1 g1)(ew:SlR dw 6 w w.heap.size u2 g2) :
 Calls prog 25 #[.agg #[.string s1,.int .i64 t1,.int .i64 l1,v1,u1],.agg #[.string s2,.int .i64 t2,.int .i64 l2,v2,u2]] w
  λe w'=>e = .returned (.bool (decide ((s1=s2/\t1=t2/\l1=l2/\d1=d2)/\g1=g2)))/\Below w.heap.size w w':=by
 obtain⟨r,hr⟩:=aRZ (decide ((s1=s2/\t1=t2/\l1=l2/\d1=d2)/\g1=g2));rw[hr];have HR:=jq hr;have rN:=jq fw;have gK:=jq fS;have jK:=jq cR;have gL:=jq ew;obtain⟨A1,c1,rfl,_,_⟩:=fc fw;obtain⟨A2,c2,rfl,_,_⟩:=fc fS;obtain⟨A3,c3,rfl,_,_⟩:=fc cR;obtain⟨A4,c4,rfl,_,_⟩:=fc ew;clear fw fS cR ew hr;obtain⟨d1n,h1⟩:=aRZ d1.length;obtain⟨d2n,h2⟩:=aRZ d2.length;obtain⟨n,h3⟩:=aRZ g1.length;obtain⟨m,h4⟩:=aRZ g2.length;rw[h1,h2,h3,h4];rw[h1] at rN;rw[h2] at gK;rw[h3] at jK;rw[h4] at gL;have H3:=jq h3;have H4:=jq h4;clear h1 h2 h3 h4;obtain⟨X,hX⟩:=aRZ w.heap.size;obtain⟨Y,hY⟩:=aRZ (X+1);obtain⟨W1,dl⟩:=aRZ ((w.alloc (.cells #[.string s1,.int .i64 t1,.int .i64 l1,.slice A1 d1n c1,.slice A3 n c3] 44)).alloc (.cells #[.string s2,.int .i64 t2,.int .i64 l2,.slice A2 d2n c2,.slice A4 m c4] 44));have bH:Below w.heap.size w W1:=by rw[<-dl];exact (blAl).alloc (by simp) _
 have Dz:W1.heap.size=w.heap.size+2:=by rw[<-dl];simp
 obtain⟨k0,k1,k2,k3,k4⟩:=cRow5 W1 X (.string s1) (.int .i64 t1) (.int .i64 l1) (.slice A1 d1n c1) (.slice A3 n c3) (by rw[<-dl,<-hX];simp[go_sem]);obtain⟨j0,j1,j2,j3,j4⟩:=cRow5 W1 Y (.string s2) (.int .i64 t2) (.int .i64 l2) (.slice A2 d2n c2) (.slice A4 m c4) (by rw[<-dl,<-hY,<-hX];simp[go_sem]);rw[hX] at bH Dz rN gK jK gL |-;have bU:=jq bH;clear bH;go_enter func25,ntmps25;go_wp2_with fail;refine (ayQ s1 s2 t1 l1 t2 l2 _ _ d1 d2 _ ((rN.out.keep br bU.out).more bB (by omega)) ((gK.out.keep br bU.out).more bB (by omega))).mono ?_;rintro e w2 ⟨rfl,ag⟩;have cr:=ag.size;replace k0:=aQY ag k0;replace k1:=aQY ag k1;replace k2:=aQY ag k2;replace k3:=aQY ag k3;replace k4:=aQY ag k4;replace j0:=aQY ag j0;replace j1:=aQY ag j1;replace j2:=aQY ag j2;replace j3:=aQY ag j3;replace j4:=aQY ag j4;have ax:=aRQ bU ag;clear ag dl hX;obtain⟨q,hq⟩:=aRZ (decide (s1=s2/\t1=t2/\l1=l2/\d1=d2));rw[hq];have Kh:=jq hq;clear hq
 cases q with
 | false=>
  have HX:Hid (r=false):=jq (by rw[<-HR.out];exact tQ λh=>(of_decide_eq_false Kh.out) h.1);go_wp2_with fail;go_ret;exact⟨aw HX.out.symm,ax.out⟩
 | true=>
  by_cases gt:n=m
  ·subst gt;go_wp2_with fail;go_loopw [5] (λi wr=>∃ (k:Nat),k<=n/\i = .int .i64 k/\Hid (Below w2.heap.size w2 wr)/\Hid (g1.take k=g2.take k)) (λi _=>n - (intOf i).toNat)
   case atStart=>exact⟨0,jQ _,rfl,jq (vQ _ _),jq rfl⟩
   case round=>
    obtain⟨k,hk,rfl,xT,HT⟩:=hrel;have au:=xT.out.size;have HB:=aRQ ax xT.out;have a4:=aQY xT.out k4;have b4:=aQY xT.out j4;by_cases af:k<n
    ·obtain⟨x,hx⟩:∃ x,g1[k]?=some x:=⟨_,aQ (by rw[H3.out];exact af)⟩;obtain⟨y,hy⟩:∃ y,g2[k]?=some y:=⟨_,aQ (by rw[H4.out];exact af)⟩;obtain⟨b,o,c,sx,hv,eU,uV,_,f0,f1,f2,f3,f4,f5⟩:=Iw (jK.out.keep cK HB.out) hx;obtain⟨b',o',c',sy,hv',YL,OV,_,e0,e1,e2,e3,e4,e5⟩:=Iw (gL.out.keep cK HB.out) hy;simp only[Value.slice.injEq] at hv hv';obtain⟨rfl,_,_⟩:=hv;obtain⟨rfl,_,_⟩:=hv';have yu:Hid (x=y->g1.take (k+1)=g2.take (k+1)):=jq (λe=>by
      obtain⟨q1,q2⟩:=cQ.1 hx;obtain⟨q3,q4⟩:=cQ.1 hy;rw[fQ q1,fQ q3,q2,q4,HT.out,e])
     have kx:Hid (x≠y->r=false):=jq (λe=>by
      rw[<-HR.out];refine tQ λh=>e ?_;have h2:=h.2;subst h2;rw[hx] at hy;simpa using hy)
     have dS:(0:Int)<=(k:Int):=by omega
     have dp:(k:Int)<(n:Int):=by omega
     have heq:=amJ sx sy x.key x.alg x.frm x.til y.key y.alg y.frm y.til x.sum y.sum;rw[azZ uV OV] at heq;clear hx hy uV OV;by_cases dE:x=y
     ·have HX:=jq (yu.out dE);have oM:decide (x≠y)=false:=by simpa using dE
      rw[oM] at heq;clear oM dE;go_wp2_with fail;go_quiet (fail);go_wp2_with fail;go_roundw
      case rel=>exact⟨k+1,by omega,by go_num,jq (below_drewN xT.out _),HX⟩
      ·simp[intOf]<;>omega
     ·have HX:=jq (kx.out dE);have oM:decide (x≠y)=true:=uQ dE;rw[oM] at heq;clear oM dE;go_wp2_with fail;go_quiet (fail);go_wp2_with fail;go_ret;exact⟨aw HX.out.symm,below_drewN HB.out _⟩
    ·have HX:Hid (r=true):=jq (by
      rw[<-HR.out];refine uQ ⟨of_decide_eq_true Kh.out,?_⟩
      have:=HT.out
      rwa [kQ (by rw[H3.out];omega),kQ (by rw[H4.out];omega)] at this)
     go_wp2_with fail;go_ret;exact⟨aw HX.out.symm,HB.out⟩
  ·have hne:(n:Int)≠(m:Int):=by omega
   have hd:decide ((n:Int)=(m:Int))=false:=tQ hne;have hb:((n:Int) == (m:Int))=false:=by simpa using hne
   have HX:Hid (r=false):=jq (by rw[<-HR.out];exact tQ λh=>gt (by rw[<-H3.out,<-H4.out,h.2]));go_wp2_with fail;go_ret;exact⟨aw HX.out.symm,ax.out⟩
theorem Qj(x y:Np.Signed)(s1 s2:ByteArray)(h1:s1.data.toList=x.set.name)(h2:s2.data.toList=y.set.name)(v1 u1 v2 u2:Value)(w:World)(fw:SlR bS 3 w w.heap.size v1 x.set.data)(cR:SlR dw 6 w w.heap.size u1 x.sigs)(fS:SlR bS 3 w w.heap.size v2 y.set.data)(ew:SlR dw 6 w w.heap.size u2 y.sigs) :
 Calls prog 25 #[.agg #[.string s1,.int .i64 x.set.type,.int .i64 x.set.life,v1,u1],.agg #[.string s2,.int .i64 y.set.type,.int .i64 y.set.life,v2,u2]] w (aUQ w.heap.size w (.bool (decide (x=y)))):=by
 refine (Qk s1 s2 _ _ _ _ v1 v2 u1 u2 _ _ _ _ w fw fS cR ew).mono λe w' ⟨he,hb⟩=>⟨he.trans ?_,hb⟩;congr 2;rw[decide_eq_decide];obtain⟨⟨nx,tx,lx,dx⟩,gx⟩:=x;obtain⟨⟨ny,ty,ly,dy⟩,gy⟩:=y;dsimp only at h1 h2 |-;simp only[Np.Signed.mk.injEq,Np.DSet.mk.injEq];refine and_congr (and_congr ⟨λh=>by rw[<-h1,<-h2,h],λh=>mF (by rw[h1,h2,h])⟩ Iff.rfl) Iff.rfl
end
end Go.Proofs.YtadhigmjilijcaaGreatDoor
