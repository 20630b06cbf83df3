/- No condition. -/
import Derived.Test.YtadhigmjilijcaaGreatDoorA28
set_option linter.all false
set_option maxRecDepth 100000
set_option maxHeartbeats 8000000
namespace Go.Proofs.YtadhigmjilijcaaGreatDoor
open Go.Proofs.Tryz
section
open Go.RowKit Go.Shelf
attribute [local go_sem] Oper.semAt_some
theorem Fn{b:ByteArray}(h:b.data.toList = []):b=⟨#[]⟩:=by
 cases b with
 | mk d=>simp at h;rw[h]
theorem aiX(kv:Value)(known:List Np.Signed)(an qn:ByteArray)(anchor:Np.DSet)(han:an.data.toList=anchor.name)(mj:an.size<=140737488355328)(adv:Value)(ty at' dr:Int)(fH:qn.size<=140737488355328)(w:World)(hR:bL w w.heap.size)(hk:SlR aB 5 w w.heap.size kv known)(fP:SlR bS 3 w w.heap.size adv anchor.data) :
 Calls prog 6 #[kv,.agg #[.string an,.int .i64 anchor.type,.int .i64 anchor.life,adv],.agg #[.string qn,.int .i64 ty],.int .i64 at',.int .i64 dr] w λe w'=>e = .returned (.bool true)/\Below w.heap.size w w':=by
 obtain⟨A,N,C,rfl,hN,_,_⟩:=aM hk;obtain⟨aA,aN,aC,rfl,NH,_,_⟩:=aM fP;have HN:=jq hN;have fJ:=jq han;obtain⟨X,hX⟩:=aRZ w.heap.size;obtain⟨w1,ah⟩:=aRZ (w.alloc (.cells #[.string an,.int .i64 anchor.type,.int .i64 anchor.life,.slice aA aN aC] 25));obtain⟨w2,aX⟩:=aRZ (w1.alloc (.cells #[.string qn,.int .i64 ty] 27));have z1:w1.heap.size=X+1:=by rw[<-ah,<-hX];simp
 have z2:w2.heap.size=X+1+1:=by rw[<-aX,<-z1];simp
 have b1:Below w.heap.size w w1:=by rw[<-ah];exact aj _ _
 have b2:Below w1.heap.size w1 w2:=by rw[<-aX];exact aj _ _
 have b12:=b1.trans (b2.aSZ);have tF:Hid (w2.heap[X]?=some (.cells [Value.string an,.int .i64 anchor.type,.int .i64 anchor.life,.slice aA aN aC].toArray 25 (0,0))):=jq ((b2.block X (by omega)).trans (by rw[<-ah,<-hX];exact heap_alloc_new _ _));have xW:Hid (w2.heap[X+1]?=some (.cells [Value.string qn,.int .i64 ty].toArray 27 (0,0))):=jq (by rw[<-aX,<-z1];exact heap_alloc_new _ _);have HR:=jq ((hR.keep b12).more b12.size);have HK:=jq (hk.later az bf b12);have HA:=jq (fP.later br bB b12);have HB:=jq b12;clear hk fP hR b1 b2 b12 hN han;go_enter func6,ntmps6;go_wp2_with fail;clear ah;go_wp2_with fail;clear aX;go_wp2_with fail;refine (GC w2 HR.out).mono ?_;rintro e w3 ⟨rfl,ai⟩;have z3:X+1+1<=w3.heap.size:=by have:=ai.size;omega
 have am:=aRQ HB ai;have po:=jq ((ai.block X (by omega)).trans tF.out);have qx:=jq ((ai.block (X+1) (by omega)).trans xW.out);have gN:=jq ((HR.out.keep ai).more ai.size);have iL:=jq (HK.out.later az bf ai);have pj:=jq (HA.out.later br bB ai);clear ai;go_wp2_with fail;refine (Fy _ known w3 iL.out).mono ?_;rintro e w4 ⟨fb,rfl,rfl,sT⟩
 cases fb with
 | false=>
  go_wp2_with fail;go_ret;exact⟨rfl,am.out⟩
 | true=>
  have pp:=jq (sT rfl);clear sT;have a0:=ae _ po.out 0 _ rfl;have a1:=ae _ po.out 1 _ rfl;have a2:=ae _ po.out 2 _ rfl;have a3:=ae _ po.out 3 _ rfl;have q0:=ae _ qx.out 0 _ rfl;have q1:=ae _ qx.out 1 _ rfl;go_wp2_with fail;clear a0 a1 a2 a3 q0 q1;refine (Ay (.slice A N C) known an qn anchor fJ.out mj (.slice aA aN aC) ty at' dr fH w3 gN.out iL.out (λy hy=>⟨yQ (pp.out.2 y hy).1 (by decide),yQ (pp.out.2 y hy).2 (by decide)⟩) pj.out).mono ?_;have hj:=Np.Px known anchor qn.data.toList ty at' dr;obtain⟨⟨⟨k,⟨mq,mt⟩,sets⟩,er⟩,hx⟩:∃ x,Np.eY known anchor qn.data.toList ty at' dr=x:=⟨_,rfl⟩;rw[hx] at hj |-;clear hx;rintro e w4 ⟨mn,vA,vn,vc,rfl,hq,cA,di,av⟩;dsimp only at hj hq di |-;have cE:vn=sets.length:=(xI (di (λ_=>False) (λ_ e=>e.elim))).symm;have aF:=aRQ am av;have lM:=jq (iL.out.later az bf av);have z4:X+1+1<=w4.heap.size:=by have:=av.size;omega
  clear av di;by_cases her:er=0
  ·subst her;rcases hj.kinds rfl with h | h | h
   ·dsimp only at h;subst h;have pY:=hj.quest (by dsimp only;decide);dsimp only at pY
    cases pY
    clear hj;obtain rfl:mn=⟨#[]⟩:=Fn hq;obtain⟨w5,bc⟩:=aRZ (w4.alloc (.cells #[.int .i64 1,.string ⟨#[]⟩,.int .i64 0,.slice vA vn vc] 33));have b5:Below w4.heap.size w4 w5:=by rw[<-bc];exact aj _ _
    have dJ:Hid (w5.heap[w4.heap.size]?=some (.cells [Value.int .i64 1,.string ⟨#[]⟩,.int .i64 0,.slice vA vn vc].toArray 33 (0,0))):=jq (by rw[<-bc];exact heap_alloc_new _ _);have z5:w5.heap.size=w4.heap.size+1:=by rw[<-bc];simp
    have aK:=aRQ aF b5;have qA:=jq (lM.out.later az bf b5);have v0:=ae _ dJ.out 0 _ rfl;have v1:=ae _ dJ.out 1 _ rfl;have v2:=ae _ dJ.out 2 _ rfl;clear b5;clear hq cA cE;go_wp2_with fail;clear bc;go_wp2_with fail;go_ret;exact⟨rfl,aK.out⟩
   ·dsimp only at h;subst h;have pY:=hj.quest (by dsimp only;decide);dsimp only at pY
    cases pY
    clear hj;obtain rfl:mn=⟨#[]⟩:=Fn hq;obtain⟨w5,bc⟩:=aRZ (w4.alloc (.cells #[.int .i64 2,.string ⟨#[]⟩,.int .i64 0,.slice vA vn vc] 33));have b5:Below w4.heap.size w4 w5:=by rw[<-bc];exact aj _ _
    have dJ:Hid (w5.heap[w4.heap.size]?=some (.cells [Value.int .i64 2,.string ⟨#[]⟩,.int .i64 0,.slice vA vn vc].toArray 33 (0,0))):=jq (by rw[<-bc];exact heap_alloc_new _ _);have z5:w5.heap.size=w4.heap.size+1:=by rw[<-bc];simp
    have aK:=aRQ aF b5;have qA:=jq (lM.out.later az bf b5);have v0:=ae _ dJ.out 0 _ rfl;have v1:=ae _ dJ.out 1 _ rfl;have v2:=ae _ dJ.out 2 _ rfl;clear b5;clear hq cA cE;go_wp2_with fail;clear bc;go_wp2_with fail;go_ret;exact⟨rfl,aK.out⟩
   ·dsimp only at h;subst h;obtain⟨⟨fV,bX⟩,Di⟩:=hj.needs rfl;dsimp only at fV bX Di;subst Di;obtain rfl:vn=0:=cE;have qB:=jq fV;have dG:=jq bX;have EI:=jq hq;clear hj fV bX hq;obtain⟨w5,bc⟩:=aRZ (w4.alloc (.cells #[.int .i64 3,.string mn,.int .i64 mt,.slice vA 0 vc] 33));have b5:Below w4.heap.size w4 w5:=by rw[<-bc];exact aj _ _
    have dJ:Hid (w5.heap[w4.heap.size]?=some (.cells [Value.int .i64 3,.string mn,.int .i64 mt,.slice vA 0 vc].toArray 33 (0,0))):=jq (by rw[<-bc];exact heap_alloc_new _ _);have z5:w5.heap.size=w4.heap.size+1:=by rw[<-bc];simp
    have aK:=aRQ aF b5;have qA:=jq (lM.out.later az bf b5);have v0:=ae _ dJ.out 0 _ rfl;have v1:=ae _ dJ.out 1 _ rfl;have v2:=ae _ dJ.out 2 _ rfl;clear b5;go_wp2_with fail;clear bc;go_wp2_with fail;clear v0 v1 v2;go_loopw [59] (λi wr=>∃ k:Nat,k<=N/\i = .int .i64 k/\Hid (Below w5.heap.size w5 wr)) (λi _=>N - (intOf i).toNat)
    case atStart=>exact⟨0,jQ _,rfl,jq (vQ _ _)⟩
    case round=>
     obtain⟨k,hk,rfl,dI⟩:=hrel;obtain⟨ws,rfl⟩:=aRX wr;have lU:=jq ((dI.out.block w4.heap.size (by omega)).trans dJ.out);have zs:w4.heap.size<ws.heap.size:=by have:=dI.out.size;omega
     by_cases af:k<N
     ·obtain⟨x,eP⟩:∃ x,known[k]?=some x:=⟨_,aQ (by rw[HN.out];exact af)⟩;obtain⟨b,o,c2,s,dv,sv,hA,dB,_,dq,eX,bZ,cx,e0,e1,e2,e3,e4⟩:=mE (qA.out.later az bf dI.out) eP;simp only[Value.slice.injEq] at hA;obtain⟨rfl,-,rfl⟩:=hA;obtain⟨dA,dn,dc,rfl,_,_,_⟩:=aM bZ;obtain⟨gA,gn,gc,rfl,_,_,_⟩:=aM cx;have Vt:Hid (x∈known):=jq (gQ eP);have dS:=kNN k;have dp:(k:Int)<(N:Int):=by omega
      obtain⟨w6,cS⟩:=aRZ (ws.alloc (.cells #[.string s,.int .i64 x.set.type,.int .i64 x.set.life,.slice dA dn dc,.slice gA gn gc] 44));have bh:Below ws.heap.size ws w6:=by rw[<-cS];exact aj _ _
      have ef:Hid (w6.heap[ws.heap.size]?=some (.cells [Value.string s,.int .i64 x.set.type,.int .i64 x.set.life,.slice dA dn dc,.slice gA gn gc].toArray 44 (0,0))):=jq (by rw[<-cS];exact heap_alloc_new _ _);have JL:=jq ((bh.block w4.heap.size zs).trans lU.out);have iO:=jq (cx.later cK da bh);have gj:=jq dq;have aU:=jq (dI.out.trans (bh.mono (by have:=dI.out.size;omega)));have c0:=ae _ ef.out 0 _ rfl;have c1:=ae _ ef.out 1 _ rfl;have c2:=ae _ ef.out 2 _ rfl;have c3:=ae _ ef.out 3 _ rfl;have c4:=ae _ ef.out 4 _ rfl;have v1:=ae _ JL.out 1 _ rfl;have v2:=ae _ JL.out 2 _ rfl;clear bh dq cx bZ eP;by_cases hn:x.set.name=mq
      ·have C0:(s.toList == mn.toList)=true:=by rw[dQ,dQ,gj.out,EI.out,hn];simp
       by_cases ht:x.set.type=mt
       ·have xk:Np.aE x = []:=Decidable.byContradiction λhs=>dG.out x Vt.out ⟨hn,ht,hs⟩;have tR:=jq xk;have kg:(x.set.type == mt)=true:=by simpa using ht
        clear xk ht hn;go_wp2_with fail;clear cS;go_wp2_with fail;clear e0 e1 e2 e3 e4 c0 c1 c2 c3 c4 v1 v2;refine (Qo s x.set.type x.set.life _ _ x.sigs x.set w6 iO.out).mono ?_;rintro e w7 ⟨c,rfl,⟨hc,_⟩,bm⟩;have bi:(c.toList == [])=true:=by rw[dQ,hc,show Np.aE ⟨x.set,x.sigs⟩ = [] from tR.out];rfl
        have cL:=jq (aU.out.trans (bm.mono aU.out.size));clear hc bm;go_wp2_with fail;go_roundw
        case rel=>exact⟨k+1,by omega,by go_num,cL⟩
        ·simp[intOf]<;>omega
       ·have kg:(x.set.type == mt)=false:=by simpa using ht
        clear hn;go_wp2_with fail;clear cS;go_wp2_with fail;go_roundw
        case rel=>exact⟨k+1,by omega,by go_num,aU⟩
        ·simp[intOf]<;>omega
      ·have C0:(s.toList == mn.toList)=false:=by rw[dQ,dQ,gj.out,EI.out];simpa using hn
       clear hn;go_wp2_with fail;clear cS;go_wp2_with fail;go_roundw
       case rel=>exact⟨k+1,by omega,by go_num,aU⟩
       ·simp[intOf]<;>omega
     ·obtain rfl:k=N:=by omega
      have v1:=ae _ lU.out 1 _ rfl;have v2:=ae _ lU.out 2 _ rfl;have fV:(Np.ao mn.data.toList&&(decide (1<=mt)&&decide (mt<=8)))=true:=by
       have h:=qB.out;unfold Np.QOk at h;rw[EI.out];simpa only[Bool.and_eq_true,Qa] using h
      go_wp2_with fail;clear v1 v2;refine (atQ mn cA mt ws).mono ?_;rintro e w8 ⟨rfl,cu⟩;rw[fV];have zs8:w4.heap.size<w8.heap.size:=by have:=cu.size;omega
      have Vc:=jq ((cu.block w4.heap.size zs).trans lU.out);have v3:=ae _ Vc.out 3 _ rfl;have cT:=jq (aK.out.trans ((dI.out.trans (cu.mono dI.out.size)).mono aK.out.size));clear cu;go_wp2_with fail;go_ret;exact⟨rfl,cT.out⟩
  ·have pT:=hj.none her
   cases pT
   clear hj;have cp:(er == 0)=false:=by simpa using her
   have cP:(er != 0)=true:=by simpa using her
   obtain rfl:mn=⟨#[]⟩:=Fn hq;obtain⟨w5,bc⟩:=aRZ (w4.alloc (.cells #[.int .i64 0,.string ⟨#[]⟩,.int .i64 0,.slice vA vn vc] 33));have b5:Below w4.heap.size w4 w5:=by rw[<-bc];exact aj _ _
   have dJ:Hid (w5.heap[w4.heap.size]?=some (.cells [Value.int .i64 0,.string ⟨#[]⟩,.int .i64 0,.slice vA vn vc].toArray 33 (0,0))):=jq (by rw[<-bc];exact heap_alloc_new _ _);have z5:w5.heap.size=w4.heap.size+1:=by rw[<-bc];simp
   have aK:=aRQ aF b5;have qA:=jq (lM.out.later az bf b5);have v0:=ae _ dJ.out 0 _ rfl;have v1:=ae _ dJ.out 1 _ rfl;have v2:=ae _ dJ.out 2 _ rfl;clear b5;clear hq cA cE;go_wp2_with fail;clear bc;go_wp2_with fail;go_ret;exact⟨rfl,aK.out⟩
end
end Go.Proofs.YtadhigmjilijcaaGreatDoor
