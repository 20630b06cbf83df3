/- Parts of the proof. No condition. -/
import Derived.Test.YtfnopgdcaanaiaaGreatDoorV13
set_option linter.all false
set_option maxRecDepth 100000
set_option maxHeartbeats 8000000
namespace Go.Proofs.YtfnopgdcaanaiaaGreatDoor
open Go.Proofs.Tryz
section
open Go.RowKit
theorem axK{α:Type}{xs ys:List α}{k:Nat}(h1:k<xs.length)(h2:k<ys.length)(h:xs.take k=ys.take k)(he:xs[k]=ys[k]):xs.take (k+1)=ys.take (k+1):=by
 rw[fQ h1,fQ h2,h,he]
theorem ZT{α:Type}[DecidableEq α]{xs ys:List α}{k:Nat}(h1:k<xs.length)(h2:k<ys.length)(he:¬ xs[k]=ys[k]):false=decide (xs=ys):=by
 symm;rw[decide_eq_false_iff_not];rintro rfl;exact he rfl
theorem QQ(u v:Value)(xs ys:List Int)(w:World)(hu:SlR iM 1 w w.heap.size u xs)(hv:SlR iM 1 w w.heap.size v ys) :
 Calls prog 41 #[u,v] w (aOJ w.heap.size w (.bool (decide (xs=ys)))):=by
 have HU:=jq hu;have HV:=jq hv;obtain⟨A,c,rfl,be,bC,ic⟩:=hu;obtain⟨A2,c2,rfl,dV,dJ,ie⟩:=hv;clear ic ie;by_cases hlen:xs.length=ys.length
 ·have Ov:((xs.length:Int) != (ys.length:Int))=false:=by simp;omega
  have HL:=jq hlen;clear hlen;go_enter func41,ntmps41;go_wp2_with fail;go_loopw [5] (λi wr=>∃ k:Nat,k<=xs.length/\i = .int .i64 k/\Below w.heap.size w wr/\Hid (xs.take k=ys.take k)) (λi _=>xs.length - (intOf i).toNat)
  case atStart=>exact⟨0,jQ _,rfl,vQ _ _,jq rfl⟩
  case round=>
   obtain⟨k,hk,rfl,hb,HA⟩:=hrel;by_cases aa:k<xs.length
   ·have lz:k<ys.length:=by have:=HL.out;omega
    obtain⟨A',c',hA',_,_,aY⟩:=HU.out.keep kj hb
    cases hA'
    obtain⟨b,o,e,rfl,bB,hlen,hce,rfl⟩:=aY k _ (aQ aa);obtain⟨A',c',hA',_,_,N0⟩:=HV.out.keep kj hb
    cases hA'
    obtain⟨b2,o2,e2,rfl,Io,aSY,NU,rfl⟩:=N0 k _ (aQ lz);have h0:wr.cell? ⟨b,o+k,none⟩=some (.int .i64 xs[k]):=by have:=hce 0 _ rfl;simpa using this
    have g0:wr.cell? ⟨b2,o2+k,none⟩=some (.int .i64 ys[k]):=by have:=NU 0 _ rfl;simpa using this
    have HB:=jq hb;clear aY N0 hce NU hb;go_wp2_with fail;go_quiet (fail);by_cases hx:xs[k]=ys[k]
    ·have hx':(xs[k] != ys[k])=false:=by simp[hx]
     have HX:=jq hx;clear hx;go_wp2_with fail;go_roundw
     case rel=>exact⟨k+1,by omega,by go_num,below_drewN HB.out _,jq (axK aa lz HA.out HX.out)⟩
     case measure=>simp[intOf] <;> omega
    ·have hx':(xs[k] != ys[k])=true:=by simp[hx]
     have HX:=jq hx;clear hx;go_wp2_with fail;go_ret;exact⟨ae (ZT aa lz HX.out),below_drewN HB.out _⟩
   ·go_wp2_with fail;go_ret;refine⟨ae ?_,hb⟩;have h:=HA.out;rw[kQ (by omega),kQ (by have:=HL.out;omega)] at h;simp[h]
 ·have Ov:((xs.length:Int) != (ys.length:Int))=true:=by simp;omega
  go_enter func41,ntmps41;go_wp2_with fail;go_ret;exact⟨ae (by simp;intro e;exact hlen (by rw[e])),vQ _ _⟩
theorem Ci{α:Type}{R:aPK α}{sz:Nat}{W:World}{g:Nat}{n:Nat}{xs:List α}(enc:α->List Value)(hlen:∀ x∈xs,(enc x).length=sz)(hn:xs.length=n)
 (hc:∀ j u,(xs.flatMap enc)[j]?=some u->W.cell? ⟨g,j,none⟩=some u) (hg:g<W.heap.size) (hl:xs.length<=140737488355328) (hR:∀ x∈xs,R W W.heap.size (enc x) x):SlR R sz W W.heap.size (.slice (some ⟨g,0,none⟩) n n) xs:=by
 have IZ:∀ (l:List α) (i:Nat) (x:α) (j:Nat) (u:Value),(∀ y∈l,(enc y).length=sz)->l[i]?=some x->(enc x)[j]?=some u->(l.flatMap enc)[i * sz+j]?=some u:=by
  intro l
  induction l with
  | nil=>intro i x j u _ hi;simp at hi
  | cons y l ih=>
   intro i x j u eV hi hj;rw[List.flatMap_cons];have hy:(enc y).length=sz:=eV y (by simp)
   cases i with
   | zero=>
    simp at hi;subst hi;rw[List.getElem?_append_left (by have:=(cQ.1 hj).1;omega)];simpa using hj
   | succ i=>
    rw[oQ (by rw[hy,Nat.succ_mul];omega),hy]
    have:=ih i x j u (λy hy=>eV y (by simp[hy])) (by simpa using hi) hj
    rw[show (i+1) * sz+j - sz=i * sz+j by rw[Nat.succ_mul];omega];exact this
 subst hn;refine⟨_,_,rfl,bQ _,hl,λi x hx=>⟨g,0,enc x,rfl,hg,hlen x (gQ hx),λj u hj=>?_,hR x (gQ hx)⟩⟩;have h1:=hc _ _ (IZ xs i x j u hlen hx hj);rw[show 0+i * sz+j=i * sz+j by omega];exact h1
def my:Np.Datum:=⟨[],1,0⟩
def kD:Np.Sig:=⟨[120],1,1,10,90,0⟩
def x8:Np.DSet:=⟨[120],1,0,[my]⟩
theorem W8(w:World)(hR:iv w w.heap.size) :
 Calls prog 36 #[] w (aOJ w.heap.size w (.bool true)):=by
 have HR:=jq hR;clear hR;go_enter func36,ntmps36;go_wp2_with fail;have b0:(((w.alloc (.cells #[.string ⟨#[]⟩,.int .i64 1,.int .i64 0] 128)).alloc (.cells #[.string ⟨#[120]⟩,.int .i64 1,.int .i64 1,.int .i64 10,.int .i64 90,.int .u64 0] 50)).alloc (.cells #[.string ⟨#[120]⟩,.int .i64 1,.int .i64 0,.slice (some ⟨w.heap.size,0,none⟩) 1 1,.slice (some ⟨w.heap.size+1,0,none⟩) 1 1] 42)).cell? ⟨w.heap.size+1+1,0,none⟩=some (.string ⟨#[120]⟩):=by go_simp
 have b1:(((w.alloc (.cells #[.string ⟨#[]⟩,.int .i64 1,.int .i64 0] 128)).alloc (.cells #[.string ⟨#[120]⟩,.int .i64 1,.int .i64 1,.int .i64 10,.int .i64 90,.int .u64 0] 50)).alloc (.cells #[.string ⟨#[120]⟩,.int .i64 1,.int .i64 0,.slice (some ⟨w.heap.size,0,none⟩) 1 1,.slice (some ⟨w.heap.size+1,0,none⟩) 1 1] 42)).cell? ⟨w.heap.size+1+1,1,none⟩=some (.int .i64 1):=by go_simp
 have b2:(((w.alloc (.cells #[.string ⟨#[]⟩,.int .i64 1,.int .i64 0] 128)).alloc (.cells #[.string ⟨#[120]⟩,.int .i64 1,.int .i64 1,.int .i64 10,.int .i64 90,.int .u64 0] 50)).alloc (.cells #[.string ⟨#[120]⟩,.int .i64 1,.int .i64 0,.slice (some ⟨w.heap.size,0,none⟩) 1 1,.slice (some ⟨w.heap.size+1,0,none⟩) 1 1] 42)).cell? ⟨w.heap.size+1+1,2,none⟩=some (.int .i64 0):=by go_simp
 have b3:(((w.alloc (.cells #[.string ⟨#[]⟩,.int .i64 1,.int .i64 0] 128)).alloc (.cells #[.string ⟨#[120]⟩,.int .i64 1,.int .i64 1,.int .i64 10,.int .i64 90,.int .u64 0] 50)).alloc (.cells #[.string ⟨#[120]⟩,.int .i64 1,.int .i64 0,.slice (some ⟨w.heap.size,0,none⟩) 1 1,.slice (some ⟨w.heap.size+1,0,none⟩) 1 1] 42)).cell? ⟨w.heap.size+1+1,3,none⟩=some (.slice (some ⟨w.heap.size,0,none⟩) 1 1):=by go_simp
 have b4:(((w.alloc (.cells #[.string ⟨#[]⟩,.int .i64 1,.int .i64 0] 128)).alloc (.cells #[.string ⟨#[120]⟩,.int .i64 1,.int .i64 1,.int .i64 10,.int .i64 90,.int .u64 0] 50)).alloc (.cells #[.string ⟨#[120]⟩,.int .i64 1,.int .i64 0,.slice (some ⟨w.heap.size,0,none⟩) 1 1,.slice (some ⟨w.heap.size+1,0,none⟩) 1 1] 42)).cell? ⟨w.heap.size+1+1,4,none⟩=some (.slice (some ⟨w.heap.size+1,0,none⟩) 1 1):=by go_simp
 have al:w.heap.size+1+1<(((w.alloc (.cells #[.string ⟨#[]⟩,.int .i64 1,.int .i64 0] 128)).alloc (.cells #[.string ⟨#[120]⟩,.int .i64 1,.int .i64 1,.int .i64 10,.int .i64 90,.int .u64 0] 50)).alloc (.cells #[.string ⟨#[120]⟩,.int .i64 1,.int .i64 0,.slice (some ⟨w.heap.size,0,none⟩) 1 1,.slice (some ⟨w.heap.size+1,0,none⟩) 1 1] 42)).heap.size:=by simp <;> omega
 have bW:Below w.heap.size w (((w.alloc (.cells #[.string ⟨#[]⟩,.int .i64 1,.int .i64 0] 128)).alloc (.cells #[.string ⟨#[120]⟩,.int .i64 1,.int .i64 1,.int .i64 10,.int .i64 90,.int .u64 0] 50)).alloc (.cells #[.string ⟨#[120]⟩,.int .i64 1,.int .i64 0,.slice (some ⟨w.heap.size,0,none⟩) 1 1,.slice (some ⟨w.heap.size+1,0,none⟩) 1 1] 42)):=(((vQ _ w).alloc (bQ _) _).alloc (by simp) _).alloc (by simp;omega) _;have hd:SlR cA 3 (((w.alloc (.cells #[.string ⟨#[]⟩,.int .i64 1,.int .i64 0] 128)).alloc (.cells #[.string ⟨#[120]⟩,.int .i64 1,.int .i64 1,.int .i64 10,.int .i64 90,.int .u64 0] 50)).alloc (.cells #[.string ⟨#[120]⟩,.int .i64 1,.int .i64 0,.slice (some ⟨w.heap.size,0,none⟩) 1 1,.slice (some ⟨w.heap.size+1,0,none⟩) 1 1] 42)) (((w.alloc (.cells #[.string ⟨#[]⟩,.int .i64 1,.int .i64 0] 128)).alloc (.cells #[.string ⟨#[120]⟩,.int .i64 1,.int .i64 1,.int .i64 10,.int .i64 90,.int .u64 0] 50)).alloc (.cells #[.string ⟨#[120]⟩,.int .i64 1,.int .i64 0,.slice (some ⟨w.heap.size,0,none⟩) 1 1,.slice (some ⟨w.heap.size+1,0,none⟩) 1 1] 42)).heap.size (.slice (some ⟨w.heap.size,0,none⟩) 1 1) [my]:=by
  refine Ci (λd=>[.string ⟨d.text.toArray⟩,.int .i64 d.n,.int .i64 d.m]) (by simp) rfl (λj u hj=>?_) (by simp;omega) (by simp) (λx hx=>?_)
  ·match j,hj with
   | 0,hj=>simp[my] at hj;subst hj;go_simp
   | 1,hj=>simp[my] at hj;subst hj;go_simp
   | 2,hj=>simp[my] at hj;subst hj;go_simp
   | j+3,hj=>simp at hj
  ·simp at hx;subst hx;exact⟨⟨#[]⟩,rfl,by decide,rfl⟩
 have hg:SlR de 6 (((w.alloc (.cells #[.string ⟨#[]⟩,.int .i64 1,.int .i64 0] 128)).alloc (.cells #[.string ⟨#[120]⟩,.int .i64 1,.int .i64 1,.int .i64 10,.int .i64 90,.int .u64 0] 50)).alloc (.cells #[.string ⟨#[120]⟩,.int .i64 1,.int .i64 0,.slice (some ⟨w.heap.size,0,none⟩) 1 1,.slice (some ⟨w.heap.size+1,0,none⟩) 1 1] 42)) (((w.alloc (.cells #[.string ⟨#[]⟩,.int .i64 1,.int .i64 0] 128)).alloc (.cells #[.string ⟨#[120]⟩,.int .i64 1,.int .i64 1,.int .i64 10,.int .i64 90,.int .u64 0] 50)).alloc (.cells #[.string ⟨#[120]⟩,.int .i64 1,.int .i64 0,.slice (some ⟨w.heap.size,0,none⟩) 1 1,.slice (some ⟨w.heap.size+1,0,none⟩) 1 1] 42)).heap.size (.slice (some ⟨w.heap.size+1,0,none⟩) 1 1) [kD]:=by
  refine Ci (λd=>[.string ⟨d.zone.toArray⟩,.int .i64 d.key,.int .i64 d.alg,.int .i64 d.frm,.int .i64 d.til,.int .u64 d.sum]) (by simp) rfl (λj u hj=>?_) (by simp <;> omega) (by simp) (λx hx=>?_)
  ·match j,hj with
   | 0,hj=>simp[kD] at hj;subst hj;go_simp
   | 1,hj=>simp[kD] at hj;subst hj;go_simp
   | 2,hj=>simp[kD] at hj;subst hj;go_simp
   | 3,hj=>simp[kD] at hj;subst hj;go_simp
   | 4,hj=>simp[kD] at hj;subst hj;go_simp
   | 5,hj=>simp[kD] at hj;subst hj;go_simp
   | j+6,hj=>simp at hj
  ·simp at hx;subst hx;exact⟨⟨#[120]⟩,rfl,by decide,rfl⟩
 have AC:iv (((w.alloc (.cells #[.string ⟨#[]⟩,.int .i64 1,.int .i64 0] 128)).alloc (.cells #[.string ⟨#[120]⟩,.int .i64 1,.int .i64 1,.int .i64 10,.int .i64 90,.int .u64 0] 50)).alloc (.cells #[.string ⟨#[120]⟩,.int .i64 1,.int .i64 0,.slice (some ⟨w.heap.size,0,none⟩) 1 1,.slice (some ⟨w.heap.size+1,0,none⟩) 1 1] 42)) (((w.alloc (.cells #[.string ⟨#[]⟩,.int .i64 1,.int .i64 0] 128)).alloc (.cells #[.string ⟨#[120]⟩,.int .i64 1,.int .i64 1,.int .i64 10,.int .i64 90,.int .u64 0] 50)).alloc (.cells #[.string ⟨#[120]⟩,.int .i64 1,.int .i64 0,.slice (some ⟨w.heap.size,0,none⟩) 1 1,.slice (some ⟨w.heap.size+1,0,none⟩) 1 1] 42)).heap.size:=(HR.out.keep bW).more (by simp;omega);generalize ((w.alloc (.cells #[.string ⟨#[]⟩,.int .i64 1,.int .i64 0] 128)).alloc (.cells #[.string ⟨#[120]⟩,.int .i64 1,.int .i64 1,.int .i64 10,.int .i64 90,.int .u64 0] 50)).alloc (.cells #[.string ⟨#[120]⟩,.int .i64 1,.int .i64 0,.slice (some ⟨w.heap.size,0,none⟩) 1 1,.slice (some ⟨w.heap.size+1,0,none⟩) 1 1] 42)=W0 at b0 b1 b2 b3 b4 al bW hd hg AC |-;have HD:=jq hd;have HG:=jq hg;have uS:=jq AC;have aD:=jq bW;have s1:Np.fW ⟨x8,[kD]⟩ 5 1000=0:=by decide +kernel
 have s2:Np.fV ⟨x8,[kD]⟩ 5 1000 = [⟨15,86⟩]:=by decide +kernel
 have s3:Np.fW ⟨x8,[kD]⟩ 41 1000=0:=by decide +kernel
 have s4:Np.fV ⟨x8,[kD]⟩ 41 1000 = []:=by decide +kernel
 have s5:Np.fW ⟨x8,[]⟩ 5 70=0:=by decide +kernel
 have s6:Np.fV ⟨x8,[]⟩ 5 70 = [⟨0,70⟩]:=by decide +kernel
 have t1:Np.fY 5 200 100 5 20=0:=by decide +kernel
 have t2:Np.times 5 200 100 5 20 = [5,72,139]:=by decide +kernel
 have t3:Np.fY 5 200 36 5 20=0:=by decide +kernel
 have t4:Np.fY 5 200 33 5 20=32:=by decide +kernel
 have t5:Np.fY 4 200 100 5 20=1:=by decide +kernel
 have S1:=jq s1;have S2:=jq s2;have S3:=jq s3;have S4:=jq s4;have S5:=jq s5;have S6:=jq s6;have T1:=jq t1;have T2:=jq t2;have T3:=jq t3;have T4:=jq t4;have T5:=jq t5;clear hd hg AC bW s1 s2 s3 s4 s5 s6 t1 t2 t3 t4 t5;refine (Cn ⟨#[120]⟩ (by decide) 1 0 _ _ [my] [kD] 5 1000 _ uS.out HD.out HG.out).mono ?_;rintro e w1 ⟨x1,rfl,bM,aq⟩;rw[show Np.fW ⟨⟨[120],1,0,[my]⟩,[kD]⟩ 5 1000=0 from S1.out];have ba:=aq.size;have w1c0:w1.cell? ⟨w.heap.size+1+1,0,none⟩=some (.string ⟨#[120]⟩):=(aq.cell (p:=⟨w.heap.size+1+1,0,none⟩) (by show w.heap.size+1+1<_;omega)).trans b0;have w1c1:w1.cell? ⟨w.heap.size+1+1,1,none⟩=some (.int .i64 1):=(aq.cell (p:=⟨w.heap.size+1+1,1,none⟩) (by show w.heap.size+1+1<_;omega)).trans b1;have w1c2:w1.cell? ⟨w.heap.size+1+1,2,none⟩=some (.int .i64 0):=(aq.cell (p:=⟨w.heap.size+1+1,2,none⟩) (by show w.heap.size+1+1<_;omega)).trans b2;have w1c3:w1.cell? ⟨w.heap.size+1+1,3,none⟩=some (.slice (some ⟨w.heap.size,0,none⟩) 1 1):=(aq.cell (p:=⟨w.heap.size+1+1,3,none⟩) (by show w.heap.size+1+1<_;omega)).trans b3;have w1c4:w1.cell? ⟨w.heap.size+1+1,4,none⟩=some (.slice (some ⟨w.heap.size+1,0,none⟩) 1 1):=(aq.cell (p:=⟨w.heap.size+1+1,4,none⟩) (by show w.heap.size+1+1<_;omega)).trans b4;have Ug:=jq bM;have am:=jq aq;clear bM aq;go_wp2_with fail;refine (Cn ⟨#[120]⟩ (by decide) 1 0 _ _ [my] [kD] 41 1000 _ ((uS.out.keep am.out).more (by omega)) ((HD.out.keep bD am.out).more bP (by omega)) ((HG.out.keep bH am.out).more cE (by omega))).mono ?_;rintro e w2 ⟨x2,rfl,l5,ac⟩;rw[show Np.fW ⟨⟨[120],1,0,[my]⟩,[kD]⟩ 41 1000=0 from S3.out];have aN:=ac.size;have w2c0:w2.cell? ⟨w.heap.size+1+1,0,none⟩=some (.string ⟨#[120]⟩):=(ac.cell (p:=⟨w.heap.size+1+1,0,none⟩) (by show w.heap.size+1+1<_;omega)).trans w1c0;have w2c1:w2.cell? ⟨w.heap.size+1+1,1,none⟩=some (.int .i64 1):=(ac.cell (p:=⟨w.heap.size+1+1,1,none⟩) (by show w.heap.size+1+1<_;omega)).trans w1c1;have w2c2:w2.cell? ⟨w.heap.size+1+1,2,none⟩=some (.int .i64 0):=(ac.cell (p:=⟨w.heap.size+1+1,2,none⟩) (by show w.heap.size+1+1<_;omega)).trans w1c2;have w2c3:w2.cell? ⟨w.heap.size+1+1,3,none⟩=some (.slice (some ⟨w.heap.size,0,none⟩) 1 1):=(ac.cell (p:=⟨w.heap.size+1+1,3,none⟩) (by show w.heap.size+1+1<_;omega)).trans w1c3;have w2c4:w2.cell? ⟨w.heap.size+1+1,4,none⟩=some (.slice (some ⟨w.heap.size+1,0,none⟩) 1 1):=(ac.cell (p:=⟨w.heap.size+1+1,4,none⟩) (by show w.heap.size+1+1<_;omega)).trans w1c4;have Nn:Below W0.heap.size W0 w2:=am.out.trans (ac.aKZ);have sY:=jq l5;have ah:=jq Nn;have bl:=jq ac;clear l5 ac Nn;go_wp2_with fail;refine (Cn ⟨#[120]⟩ (by decide) 1 0 _ _ [my] [] 5 70 _ ((uS.out.keep ah.out).more (by omega)) ((HD.out.keep bD ah.out).more bP (by omega)) (J2 _ _)).mono ?_;rintro e w3 ⟨x3,rfl,pT,ak⟩;rw[show Np.fW ⟨⟨[120],1,0,[my]⟩,[]⟩ 5 70=0 from S5.out];have gV:=ak.size;have Uh:=jq pT;have nZ:=jq ak;clear pT ak;go_wp2_with fail;refine (Cq _ _ _ _ _ _).mono ?_;rintro e w4 ⟨x4,rfl,yD,ar⟩;rw[T1.out];have C4:=jq yD;have lH:=jq ar;have jm:=ar.size;clear yD ar;go_wp2_with fail;refine (Cq _ _ _ _ _ _).mono ?_;rintro e w5 ⟨x5,rfl,B2,av⟩;rw[T3.out];have dp:=jq av;have kT:=av.size;clear B2 av;go_wp2_with fail;refine (Cq _ _ _ _ _ _).mono ?_;rintro e w6 ⟨x6,rfl,YA,aL⟩;rw[T4.out];have js:=jq aL;have kf:=aL.size;clear YA aL;go_wp2_with fail;refine (Cq _ _ _ _ _ _).mono ?_;rintro e w7 ⟨x7,rfl,YB,cW⟩;rw[T5.out];have la:=jq cW;have qG:=cW.size;clear YB cW;go_wp2_with fail;have n1:Below w1.heap.size w1 w7:=(((((bl.out.trans (nZ.out.aKZ)).trans (lH.out.aKZ)).trans (dp.out.aKZ)).trans (js.out.aKZ)).trans (la.out.aKZ));have n3:Below w3.heap.size w3 w7:=(((lH.out.trans (dp.out.aKZ)).trans (js.out.aKZ)).trans (la.out.aKZ));have n4:Below w4.heap.size w4 w7:=((dp.out.trans (js.out.aKZ)).trans (la.out.aKZ));have Ns:Below w.heap.size w w7:=aD.out.trans ((am.out.trans (n1.aKZ)).aKZ);have N1:=jq n1;have N3:=jq n3;have N4:=jq n4;have Uf:=jq Ns;obtain⟨A2,c2,rfl,_,_,_⟩:SlR bA 2 w2 w2.heap.size x2 []:=by have:=sY.out;rwa [show Np.fV ⟨⟨[120],1,0,[my]⟩,[kD]⟩ 41 1000 = [] from S4.out] at this
 clear n1 n3 n4 Ns;have m1:=SlR.more dP (SlR.keep bE (SlR.keep bE Ug.out N1.out) (((vQ w7.heap.size w7).alloc (bQ _) (.cells #[.int .i64 15,.int .i64 86] 110)).aKZ)) (by simp;omega:w1.heap.size<=(w7.alloc (.cells #[.int .i64 15,.int .i64 86] 110)).heap.size);refine (Ch _ _ _ [⟨15,86⟩] _ m1 ?_).mono ?_
 ·refine Ci (λd=>[.int .i64 d.frm,.int .i64 d.til]) (by simp) rfl (λj u hj=>?_) (by simp) (by simp) (λx hx=>?_)
  ·match j,hj with
   | 0,hj=>simp at hj;subst hj;go_simp
   | 1,hj=>simp at hj;subst hj;go_simp
   | j+2,hj=>simp at hj
  ·rfl
 clear m1;rintro e w8 ⟨rfl,dt⟩;rw[show decide (Np.fV ⟨⟨[120],1,0,[my]⟩,[kD]⟩ 5 1000 = [⟨15,86⟩])=true from uQ S2.out];have qH:w7.heap.size+1<=w8.heap.size:=by have:=dt.size;simpa using this
 have No:Below w7.heap.size w7 w8:=((vQ _ w7).alloc (bQ _) _).trans (dt.mono (by simp));have gY:=jq No;clear dt No;go_wp2_with fail;have m3:=SlR.more dP (SlR.keep bE (SlR.keep bE (SlR.keep bE Uh.out N3.out) (gY.out.aKZ)) (((vQ w8.heap.size w8).alloc (bQ _) (.cells #[.int .i64 0,.int .i64 70] 110)).aKZ)) (by simp;omega:w3.heap.size<=(w8.alloc (.cells #[.int .i64 0,.int .i64 70] 110)).heap.size);refine (Ch _ _ _ [⟨0,70⟩] _ m3 ?_).mono ?_
 ·refine Ci (λd=>[.int .i64 d.frm,.int .i64 d.til]) (by simp) rfl (λj u hj=>?_) (by simp) (by simp) (λx hx=>?_)
  ·match j,hj with
   | 0,hj=>simp at hj;subst hj;go_simp
   | 1,hj=>simp at hj;subst hj;go_simp
   | j+2,hj=>simp at hj
  ·rfl
 clear m3;rintro e w9 ⟨rfl,dU⟩;rw[show decide (Np.fV ⟨⟨[120],1,0,[my]⟩,[]⟩ 5 70 = [⟨0,70⟩])=true from uQ S6.out];have yE:w8.heap.size+1<=w9.heap.size:=by have:=dU.size;simpa using this
 have Nq:Below w7.heap.size w7 w9:=gY.out.trans ((((vQ _ w8).alloc (bQ _) _).trans (dU.mono (by simp))).aKZ);have fH:=jq Nq;clear dU Nq;go_wp2_with fail;have m4:=SlR.more qT (SlR.keep kj (SlR.keep kj (SlR.keep kj C4.out N4.out) (fH.out.aKZ)) (((vQ w9.heap.size w9).alloc (bQ _) (.cells #[.int .i64 5,.int .i64 72,.int .i64 139] 3)).aKZ)) (by simp;omega:w4.heap.size<=(w9.alloc (.cells #[.int .i64 5,.int .i64 72,.int .i64 139] 3)).heap.size);refine (QQ _ _ _ [5,72,139] _ m4 ?_).mono ?_
 ·refine Ci (λd=>[.int .i64 d]) (by simp) rfl (λj u hj=>?_) (by simp) (by simp) (λx hx=>?_)
  ·match j,hj with
   | 0,hj=>simp at hj;subst hj;go_simp
   | 1,hj=>simp at hj;subst hj;go_simp
   | 2,hj=>simp at hj;subst hj;go_simp
   | j+3,hj=>simp at hj
  ·rfl
 clear m4;rintro e w10 ⟨rfl,AM⟩;rw[show decide (Np.times 5 200 100 5 20 = [5,72,139])=true from uQ T2.out];have xi:=jq AM;clear AM;go_wp2_with fail;go_ret;refine⟨rfl,Uf.out.trans ((fH.out.trans (((vQ _ w9).alloc (bQ _) _).trans (xi.out.mono (by simp)) |>.aKZ)).aKZ)⟩
end
end Go.Proofs.YtfnopgdcaanaiaaGreatDoor
