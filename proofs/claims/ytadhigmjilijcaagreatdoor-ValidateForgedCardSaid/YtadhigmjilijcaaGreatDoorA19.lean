/- No condition. -/
import Derived.Test.YtadhigmjilijcaaGreatDoorA14
set_option linter.all false
set_option maxRecDepth 100000
set_option maxHeartbeats 8000000
namespace Go.Proofs.YtadhigmjilijcaaGreatDoor
open Go.Proofs.Tryz
section
open Go.RowKit
theorem Np.QK(known:List Np.Signed):∀ (k:Nat) (n:List UInt8),(Np.bW known k n).2.2=0->(Np.bW known k n).1.getLast?=some [46]/\(Np.bW known k n).1.length<=k
 | 0,n,h=>by simp[Np.bW] at h
 | k+1,n,h=>by
   by_cases hr:n = [46]
   ·rw[Np.bW,QbQ hr];subst hr;simp
   ·cases hf:Np.cJ known n 6 with
    | none=>rw[Np.bW,Qc hr,hf] at h;simp at h
    | some s=>
     cases hs:s.sigs with
     | nil=>rw[Np.bW,Qc hr,hf] at h;dsimp only at h;rw[hs] at h;simp at h
     | cons g r=>
      by_cases hb:(!Np.aT n g.zone||n == g.zone)=true
      ·rw[Np.bW,Qc hr,hf] at h;dsimp only at h;rw[hs] at h;dsimp only at h;rw[QbQ hb] at h;simp at h
      ·have e:Np.bW known (k+1) n=match Np.bW known k g.zone with | (l,q,e)=>if e=0 then (n::l,([],0),0) else ([],q,e):=by
        rw[Np.bW,Qc hr,hf];dsimp only;rw[hs];dsimp only;rw[Qc hb]
       rw[e] at h |-;have ih:=Np.QK known k g.zone;generalize Np.bW known k g.zone=W at h ih |-;obtain⟨l,q,e⟩:=W;dsimp only at h ih |-;by_cases he:e=0
       ·rw[QbQ he];obtain⟨h1,h2⟩:=ih he;dsimp only;refine⟨?_,by simp;omega⟩
        cases l with
        | nil=>simp at h1
        | cons y l=>simpa using h1
       ·rw[Qc he] at h;exact absurd h he
theorem Xe:∀ args w,(callFunc 52 args).run prog w = .ok (.enter 52 args) w:=enters_of func52 (by kernel_rfl) rfl
theorem aqQ(x:Np.Signed)(e:List Value)(w:World)(hR:bL w w.heap.size)(he:aB w w.heap.size e x) :
 Calls prog 52 #[.agg e.toArray] w (aUQ w.heap.size w (.bool (!Np.bo x.set))):=by
 have HR:=jq hR;obtain⟨s,dA,dn,dc,gA,gn,gc,rfl,hs,au,_,_,hd,_⟩:=gZ he;have HS:=jq hs;have HD:=jq hd;clear hs hd he hR;go_enter func52,ntmps52;go_wp2_with fail;refine (oX s au x.set.type x.set.life _ x.set.data _ ((HR.out.keep (aj w _)).more (by simp)) (HD.out.later br bB (aj w _))).mono ?_;rintro e w2 ⟨rfl,hb⟩;have HB:=jq ((aj w _).trans (hb.mono (by simp)));rw[show (⟨s.data.toList,x.set.type,x.set.life,x.set.data⟩:Np.DSet)=x.set by rw[HS.out]];clear hb;go_wp2_with fail;go_ret;exact⟨rfl,HB.out⟩
theorem PW(kv adv:Value)(known:List Np.Signed)(an zone:ByteArray)(anchor:Np.DSet)(t d:Int)(w:World)(hR:bL w w.heap.size)(hk:SlR aB 5 w w.heap.size kv known)(han:an.data.toList=anchor.name)(mj:an.size<=140737488355328)(fP:SlR bS 3 w w.heap.size adv anchor.data)(gW:zone.size<=140737488355328) :
 Calls prog 18 #[kv,.agg #[.string an,.int .i64 anchor.type,.int .i64 anchor.life,adv],.string zone,.int .i64 t,.int .i64 d] w (Ec (Np.ja known anchor zone.data.toList t d) w):=by
 have HK:=jq hk;have qs:=jq fP;have dK:=jq hR;have fJ:=jq han;obtain⟨A,N,C,rfl,hN,_,_⟩:=aM hk;have HN:=jq hN;obtain⟨aA,aN,aC,rfl,_,_,_⟩:=aM fP;obtain⟨RES,co⟩:=aRZ (Np.ja known anchor zone.data.toList t d);rw[co];have aO:=jq co.symm;obtain⟨w1,ah⟩:=aRZ (w.alloc (.cells #[.string an,.int .i64 anchor.type,.int .i64 anchor.life,.slice aA aN aC] 25));have z1:w1.heap.size=w.heap.size+1:=by rw[<-ah];simp
 obtain⟨w0,cN⟩:=aRZ (w1.alloc (.cells #[.string ⟨#[]⟩,.int .i64 0] 27));have ix:Below w.heap.size w w0:=by rw[<-cN,<-ah];exact (blAl).alloc (by simp) _
 have ay:Below w1.heap.size w1 w0:=by rw[<-cN];exact aj _ _
 have l0:w.heap.size+1<w0.heap.size:=by rw[<-cN];simp;omega
 have tg:=bD (r:=[.string an,.int .i64 anchor.type,.int .i64 anchor.life,.slice aA aN aC]) rfl ah;have ep:Hid (∀ wz,Below w0.heap.size w0 wz->∀ (j:Nat) u,[Value.string an,.int .i64 anchor.type,.int .i64 anchor.life,.slice aA aN aC][j]?=some u->wz.cell? ⟨w.heap.size,j,none⟩=some u):=jq (λwz hb j u hj=>aQY hb ((cl ay (by omega)).trans (tg j u hj)));have HQ:Hid (∀ wz,Below w0.heap.size w0 wz->wz.heap[w.heap.size+1]?=some (.cells [Value.string ⟨#[]⟩,.int .i64 0].toArray 27 (0,0))):=jq (λwz hb=>(hb.block _ l0).trans (by
  have:=heap_alloc_new w1 (.cells #[.string ⟨#[]⟩,.int .i64 0] 27)
  rwa [cN,z1] at this))
 have aG:=jq ix;have a0:=ep.out w0 (vQ _ _) 0 _ rfl;have a1:=ep.out w0 (vQ _ _) 1 _ rfl;have a2:=ep.out w0 (vQ _ _) 2 _ rfl;have a3:=ep.out w0 (vQ _ _) 3 _ rfl;have hq:=HQ.out w0 (vQ _ _);have q0:=ae [_,_] hq 0 _ rfl;have q1:=ae [_,_] hq 1 _ rfl;have fq:∀ i,w0.frozen? ⟨w.heap.size+1,i,none⟩=false:=λi=>by simp[World.frozen?,hq]
 have lq:w.heap.size+1<w0.heap.size:=by exact l0
 clear hq;clear hk hR fP han hN co ix ay tg;go_enter func18,ntmps18;by_cases Nm:400<N
 ·have Cy:(400:Int)<(N:Int):=by omega
  have HE:Hid (RES=([],([],0),1)):=jq (by rw[aO.out,Np.ja,QbQ (.inl (by rw[HN.out];exact Nm))]);clear aO;go_wp2_with fail;clear cN ah z1;go_wp2_with fail;refine bodyPost_ret (v:=.tuple #[.slice none 0 0,.agg #[.string ⟨#[]⟩,.int .i64 0],.int .i64 1]) (by simp[results,results18,go_sem,q0,q1]) rfl ?_;exact⟨_,⟨#[]⟩,by rw[HE.out],by rw[HE.out],by decide,by rw[HE.out];exact .inl ⟨rfl,rfl⟩,(aG.out.blSe (p:=⟨w.heap.size+1,0,none⟩) _).blSe (p:=⟨w.heap.size+1,1,none⟩) _⟩
 have Cy:¬ (400:Int)<(N:Int):=by omega
 have Tb:Hid (¬ 400<known.length):=jq (by rw[HN.out];exact Nm);go_wp2_with fail;clear cN ah z1;go_wp2_with fail;refine (oX an mj anchor.type anchor.life _ anchor.data w0 ((dK.out.keep aG.out).more aG.out.size) (qs.out.later br bB aG.out)).mono ?_;rintro e w2 ⟨rfl,hb⟩;have ax:=jq hb;have dL:=jq (aG.out.trans (ax.out.mono aG.out.size));rw[show (⟨an.data.toList,anchor.type,anchor.life,anchor.data⟩:Np.DSet)=anchor by rw[fJ.out]];obtain⟨r,hr⟩:=aRZ (Np.bo anchor);rw[hr];have tT:=jq hr;clear hr hb a0 a1 a2 a3 q0 q1 fq lq;have hq:=HQ.out w2 ax.out;have q0:=ae [_,_] hq 0 _ rfl;have q1:=ae [_,_] hq 1 _ rfl;have fq:∀ i,w2.frozen? ⟨w.heap.size+1,i,none⟩=false:=λi=>by simp[World.frozen?,hq]
 have lq:w.heap.size+1<w2.heap.size:=by have:=ax.out.size;omega
 clear hq
 cases r with
 | false=>
  have HE:Hid (RES=([],([],0),1)):=jq (by rw[aO.out,Np.ja,QbQ (.inr (.inl tT.out))]);clear aO;go_wp2_with fail;refine bodyPost_ret (v:=.tuple #[.slice none 0 0,.agg #[.string ⟨#[]⟩,.int .i64 0],.int .i64 1]) (by simp[results,results18,go_sem,q0,q1]) rfl ?_;exact⟨_,⟨#[]⟩,by rw[HE.out],by rw[HE.out],by decide,by rw[HE.out];exact .inl ⟨rfl,rfl⟩,(dL.out.blSe (p:=⟨w.heap.size+1,0,none⟩) _).blSe (p:=⟨w.heap.size+1,1,none⟩) _⟩
 | true=>
  have b0:=ep.out w2 ax.out 0 _ rfl;have b1:=ep.out w2 ax.out 1 _ rfl;have b2:=ep.out w2 ax.out 2 _ rfl;have b3:=ep.out w2 ax.out 3 _ rfl;by_cases dt:anchor.type=6
  case' neg=>
   have tc:(anchor.type == 6)=false:=by simpa using dt
   have td:(anchor.type != 6)=true:=by simpa using dt
   have HE:Hid (RES=([],([],0),1)):=jq (by rw[aO.out,Np.ja,QbQ (.inr (.inr (.inl dt)))]);clear aO dt;go_wp2_with fail;refine bodyPost_ret (v:=.tuple #[.slice none 0 0,.agg #[.string ⟨#[]⟩,.int .i64 0],.int .i64 1]) (by simp[results,results18,go_sem,q0,q1]) rfl ?_;exact⟨_,⟨#[]⟩,by rw[HE.out],by rw[HE.out],by decide,by rw[HE.out];exact .inl ⟨rfl,rfl⟩,(dL.out.blSe (p:=⟨w.heap.size+1,0,none⟩) _).blSe (p:=⟨w.heap.size+1,1,none⟩) _⟩
  have tc:(anchor.type == 6)=true:=by simpa using dt
  have td:(anchor.type != 6)=false:=by simpa using dt
  by_cases xh:an.data.toList = [46]
  case' neg=>
   have i7:(an.toList == [46])=false:=by rw[dQ];simpa using xh
   have HE:Hid (RES=([],([],0),1)):=jq (by rw[aO.out,Np.ja,QbQ (.inr (.inr (.inr (by rw[<-fJ.out];exact xh))))]);clear aO xh dt;go_wp2_with fail;refine bodyPost_ret (v:=.tuple #[.slice none 0 0,.agg #[.string ⟨#[]⟩,.int .i64 0],.int .i64 1]) (by simp[results,results18,go_sem,q0,q1]) rfl ?_;exact⟨_,⟨#[]⟩,by rw[HE.out],by rw[HE.out],by decide,by rw[HE.out];exact .inl ⟨rfl,rfl⟩,(dL.out.blSe (p:=⟨w.heap.size+1,0,none⟩) _).blSe (p:=⟨w.heap.size+1,1,none⟩) _⟩
  have i7:(an.toList == [46])=true:=by rw[dQ,xh];rfl
  have rU:Hid (RES=if Np.ao zone.data.toList=false\/Np.gu zone.data.toList=true\/Np.gw t d=false then ([],([],0),1) else
   if (known.any λs=>!Np.bo s.set) then ([],([],0),1) else match Np.bW known 10 zone.data.toList with | (l,q,e)=>if e=0 then Np.fp known anchor t d l.reverse [] [] else ([],q,e)):=jq (by
   rw[aO.out,Np.ja,Qc (by
    rintro (h | h | h | h)
    ·exact Tb.out h
    ·rw[tT.out] at h;cases h
    ·exact h dt
    ·exact h (by rw[<-fJ.out];exact xh))])
  clear aO xh dt b2 b3;go_wp2_with fail;refine (jE zone gW w2).mono ?_;rintro e w3 ⟨rfl,hb⟩;have am:=jq (ax.out.trans (hb.mono ax.out.size));have dM:=jq (aG.out.trans (am.out.mono aG.out.size));obtain⟨r,hr⟩:=aRZ (Np.ao zone.data.toList);rw[hr];have yA:=jq hr;clear hr hb b0 b1 q0 q1 fq lq tc td i7;have hq:=HQ.out w3 am.out;have q0:=ae [_,_] hq 0 _ rfl;have q1:=ae [_,_] hq 1 _ rfl;have fq:∀ i,w3.frozen? ⟨w.heap.size+1,i,none⟩=false:=λi=>by simp[World.frozen?,hq]
  have lq:w.heap.size+1<w3.heap.size:=by have:=am.out.size;omega
  clear hq
  cases r with
  | false=>
   have HE:Hid (RES=([],([],0),1)):=jq (by rw[rU.out,QbQ (.inl yA.out)]);clear rU;go_wp2_with fail;refine bodyPost_ret (v:=.tuple #[.slice none 0 0,.agg #[.string ⟨#[]⟩,.int .i64 0],.int .i64 1]) (by simp[results,results18,go_sem,q0,q1]) rfl ?_;exact⟨_,⟨#[]⟩,by rw[HE.out],by rw[HE.out],by decide,by rw[HE.out];exact .inl ⟨rfl,rfl⟩,(dM.out.blSe (p:=⟨w.heap.size+1,0,none⟩) _).blSe (p:=⟨w.heap.size+1,1,none⟩) _⟩
  | true=>
   go_wp2_with fail;refine (wI zone gW w3).mono ?_;rintro e w4 ⟨rfl,rfl⟩;obtain⟨r,hr⟩:=aRZ (Np.gu zone.data.toList);rw[hr];have BQ:=jq hr;clear hr
   cases r with
   | true=>
    have HE:Hid (RES=([],([],0),1)):=jq (by rw[rU.out,QbQ (.inr (.inl BQ.out))]);clear rU;go_wp2_with fail;refine bodyPost_ret (v:=.tuple #[.slice none 0 0,.agg #[.string ⟨#[]⟩,.int .i64 0],.int .i64 1]) (by simp[results,results18,go_sem,q0,q1]) rfl ?_;exact⟨_,⟨#[]⟩,by rw[HE.out],by rw[HE.out],by decide,by rw[HE.out];exact .inl ⟨rfl,rfl⟩,(dM.out.blSe (p:=⟨w.heap.size+1,0,none⟩) _).blSe (p:=⟨w.heap.size+1,1,none⟩) _⟩
   | false=>
    go_wp2_with fail;refine (IU t d w3).mono ?_;rintro e w4 ⟨rfl,dD⟩;subst w4;obtain⟨r,hr⟩:=aRZ (Np.gw t d);rw[hr];have np:=jq hr;clear hr
    cases r with
    | false=>
     have HE:Hid (RES=([],([],0),1)):=jq (by rw[rU.out,QbQ (.inr (.inr np.out))]);clear rU;go_wp2_with fail;refine bodyPost_ret (v:=.tuple #[.slice none 0 0,.agg #[.string ⟨#[]⟩,.int .i64 0],.int .i64 1]) (by simp[results,results18,go_sem,q0,q1]) rfl ?_;exact⟨_,⟨#[]⟩,by rw[HE.out],by rw[HE.out],by decide,by rw[HE.out];exact .inl ⟨rfl,rfl⟩,(dM.out.blSe (p:=⟨w.heap.size+1,0,none⟩) _).blSe (p:=⟨w.heap.size+1,1,none⟩) _⟩
    | true=>
     have BL:Hid (RES=if (known.any λs=>!Np.bo s.set) then ([],([],0),1) else match Np.bW known 10 zone.data.toList with | (l,q,e)=>if e=0 then Np.fp known anchor t d l.reverse [] [] else ([],q,e)):=jq (by
      rw[rU.out,Qc (by
       rintro (h | h | h)
       ·rw[yA.out] at h;cases h
       ·rw[BQ.out] at h;cases h
       ·rw[np.out] at h;cases h)])
     clear rU;go_wp2_with fail;refine (ME 52 Xe #[] (λs=>!Np.bo s.set) _ known w3 w.heap.size dM.out.size (HK.out.keep az dM.out) ?_).mono ?_
     ·intro W x e hx hW sE oe;have us:=dM.out.trans (hW.mono dM.out.size);exact aqQ x e W ((dK.out.keep us).more us.size) (bf _ _ _ _ _ oe us.size)
     rintro e w4 ⟨fs,fa,fb,fv,fu,rfl,av,hf,hz⟩;have aF:=jq (am.out.trans (av.mono am.out.size));have zu:∃ (dA:Option Addr) (dn dc:Nat) (gA:Option Addr) (gn gc:Nat),fv = .slice dA dn dc/\fu = .slice gA gn gc:=by
      cases hk:known.find? (λs=>!Np.bo s.set) with
      | none=>
       have h0:=hz (by rw[Fj,hk];rfl);simp only[List.cons.injEq] at h0;exact⟨none,0,0,none,0,0,h0.2.2.2.1,h0.2.2.2.2.1⟩
      | some x=>
       obtain⟨s',dA,dn,dc,gA,gn,gc,he,_⟩:=gZ (hf x hk);simp only[List.cons.injEq] at he;exact⟨dA,dn,dc,gA,gn,gc,he.2.2.2.1,he.2.2.2.2.1⟩
     obtain⟨fdA,fdn,fdc,fgA,fgn,fgc,rfl,rfl⟩:=zu;obtain⟨r,hr⟩:=aRZ (known.any λs=>!Np.bo s.set);rw[hr];have Ei:=jq hr;clear hr av hf hz q0 q1 fq lq;obtain⟨w5,bc⟩:=aRZ (w4.alloc (.cells #[.string fs,.int .i64 fa,.int .i64 fb,.slice fdA fdn fdc,.slice fgA fgn fgc] 44));have aK:Hid (Below w0.heap.size w0 w5):=jq (aF.out.trans ((by rw[<-bc];exact aj _ _:Below w4.heap.size w4 w5).mono aF.out.size));have nX:=jq (aG.out.trans (aK.out.mono aG.out.size));have hq:=HQ.out w5 aK.out;have q0:=ae [_,_] hq 0 _ rfl;have q1:=ae [_,_] hq 1 _ rfl;have fq:∀ i,w5.frozen? ⟨w.heap.size+1,i,none⟩=false:=λi=>by simp[World.frozen?,hq]
     have lq:w.heap.size+1<w5.heap.size:=by have:=aK.out.size;omega
     clear hq
     cases r with
     | true=>
      have HE:Hid (RES=([],([],0),1)):=jq (by rw[BL.out,Ei.out];rfl);clear BL;go_wp2_with fail;clear bc;go_wp2_with fail;refine bodyPost_ret (v:=.tuple #[.slice none 0 0,.agg #[.string ⟨#[]⟩,.int .i64 0],.int .i64 1]) (by simp[results,results18,go_sem,q0,q1]) rfl ?_;exact⟨_,⟨#[]⟩,by rw[HE.out],by rw[HE.out],by decide,by rw[HE.out];exact .inl ⟨rfl,rfl⟩,(nX.out.blSe (p:=⟨w.heap.size+1,0,none⟩) _).blSe (p:=⟨w.heap.size+1,1,none⟩) _⟩
     | false=>
      have BM:Hid (RES=match Np.bW known 10 zone.data.toList with | (l,q,e)=>if e=0 then Np.fp known anchor t d l.reverse [] [] else ([],q,e)):=jq (by rw[BL.out,Ei.out];rfl);have lR:Hid (∀ x∈known,Np.bo x.set=true):=jq (λx hx=>by have:=List.any_eq_false.1 Ei.out x hx;simpa using this);have a0:=ep.out w5 aK.out 0 _ rfl;have a1:=ep.out w5 aK.out 1 _ rfl;have a2:=ep.out w5 aK.out 2 _ rfl;have a3:=ep.out w5 aK.out 3 _ rfl;obtain⟨w6,cS⟩:=aRZ (w5.alloc (.cells #[.slice A N C,.string an,.int .i64 anchor.type,.int .i64 anchor.life,.slice aA aN aC,.int .i64 t,.int .i64 d] 101));have bh:Below w5.heap.size w5 w6:=by rw[<-cS];exact aj _ _
      have l6:w5.heap.size<w6.heap.size:=by rw[<-cS];simp
      have Pa:=bD (r:=[.slice A N C,.string an,.int .i64 anchor.type,.int .i64 anchor.life,.slice aA aN aC,.int .i64 t,.int .i64 d]) rfl cS;have lY:Hid (∀ wz,Below w6.heap.size w6 wz->∀ (j:Nat) u,[Value.slice A N C,.string an,.int .i64 anchor.type,.int .i64 anchor.life,.slice aA aN aC,.int .i64 t,.int .i64 d][j]?=some u->wz.cell? ⟨w5.heap.size,j,none⟩=some u):=jq (λwz hb j u hj=>(hb.cell (p:=⟨w5.heap.size,j,none⟩) l6).trans (Pa j u hj));have aU:=jq (aK.out.trans (bh.mono aK.out.size));have E6:=jq (aG.out.trans (aU.out.mono aG.out.size));have y0:=lY.out w6 (vQ _ _) 0 _ rfl;have y1:=lY.out w6 (vQ _ _) 1 _ rfl;have y2:=lY.out w6 (vQ _ _) 2 _ rfl;have y3:=lY.out w6 (vQ _ _) 3 _ rfl;have y4:=lY.out w6 (vQ _ _) 4 _ rfl;have y5:=lY.out w6 (vQ _ _) 5 _ rfl;have y6:=lY.out w6 (vQ _ _) 6 _ rfl;clear BL bh Pa q0 q1 fq lq;go_wp2_with fail;clear bc;go_wp2_with fail;clear cS;go_wp2_with fail;refine (aMK (.slice A N C) (.slice aA aN aC) known an zone anchor.type anchor.life t d yA.out w6 (HK.out.later az bf E6.out) ⟨_,_,_,rfl⟩).mono ?_;rintro e w7 ⟨wv,qn,rfl,GY,OM,di,bm⟩;have cL:=jq (aU.out.trans (bm.mono aU.out.size));have nS:=jq bm;have HW7:=jq (aG.out.trans (cL.out.mono aG.out.size));have eH:=jq di;have Kf:=jq GY;have Ts:=jq OM;have ke:=Np.QK known 10 zone.data.toList;have CU:=Np.QJ known 10 zone.data.toList;obtain⟨WR,Gb⟩:=aRZ (Np.bW known 10 zone.data.toList);rw[Gb] at BM eH Kf ke CU;rw[Gb];obtain⟨l,⟨qn',qt⟩,ec⟩:=WR;dsimp only at ke CU |-;have ED:=jq ke;have HFO:=jq CU;obtain⟨lA,lN,lC,rfl,Zi,_,_⟩:=aM di;clear ke CU GY OM di bm Gb a0 a1 a2 a3 y0 y1 y2 y3 y4 y5 y6 Zi;obtain⟨w8,dU⟩:=aRZ (w7.alloc (.cells #[.string qn,.int .i64 qt] 27));have cu:Below w7.heap.size w7 w8:=by rw[<-dU];exact aj _ _
      have l8:w7.heap.size<w8.heap.size:=by rw[<-dU];simp
      have Aa:=bD (r:=[.string qn,.int .i64 qt]) rfl dU;have BF:Hid (∀ wz,Below w8.heap.size w8 wz->∀ (j:Nat) u,[Value.string qn,.int .i64 qt][j]?=some u->wz.cell? ⟨w7.heap.size,j,none⟩=some u):=jq (λwz hb j u hj=>(hb.cell (p:=⟨w7.heap.size,j,none⟩) l8).trans (Aa j u hj));have cT:=jq (cL.out.trans (cu.mono cL.out.size));have tB:=jq (nS.out.trans (cu.mono nS.out.size));have nY:=jq (aG.out.trans (cT.out.mono aG.out.size));have TY:=jq (eH.out.later rB AG cu);have p0:=BF.out w8 (vQ _ _) 0 _ rfl;have p1:=BF.out w8 (vQ _ _) 1 _ rfl;have y0:=lY.out w8 tB.out 0 _ rfl;have y1:=lY.out w8 tB.out 1 _ rfl;have y2:=lY.out w8 tB.out 2 _ rfl;have y3:=lY.out w8 tB.out 3 _ rfl;have y4:=lY.out w8 tB.out 4 _ rfl;have y5:=lY.out w8 tB.out 5 _ rfl;have y6:=lY.out w8 tB.out 6 _ rfl;have hq:=HQ.out w8 cT.out;have q0:=ae [_,_] hq 0 _ rfl;have q1:=ae [_,_] hq 1 _ rfl;have fq:∀ i,w8.frozen? ⟨w.heap.size+1,i,none⟩=false:=λi=>by simp[World.frozen?,hq]
      have lq:w.heap.size+1<w8.heap.size:=by have:=cT.out.size;omega
      clear hq;clear Aa cu;by_cases uC:ec=0
      case' neg=>
       have Y1:(ec != 0)=true:=by simpa using uC
       have HE:Hid (RES=([],(qn.data.toList,qt),ec)):=jq (by rw[BM.out];dsimp only;rw[Qc uC,Kf.out]);clear uC;go_wp2_with fail;clear dU;go_wp2_with fail;go_region
       all_goals
        go_wp2_with fail;refine bodyPost_ret (v:=.tuple #[.slice none 0 0,.agg #[.string qn,.int .i64 qt],.int .i64 ec]) (by simp[results,results18,go_sem,q0,q1]) rfl ?_;exact⟨_,qn,by rw[HE.out],by rw[HE.out],Ts.out,by rw[HE.out];exact .inl ⟨rfl,rfl⟩,((Below.drew nY.out).blSe (p:=⟨w.heap.size+1,0,none⟩) _).blSe (p:=⟨w.heap.size+1,1,none⟩) _⟩
      have Y1:(ec != 0)=false:=by simpa using uC
      have HE:Hid (RES=Np.fp known anchor t d l.reverse [] []):=jq (by rw[BM.out];dsimp only;rw[QbQ uC]);have tH:=jq (ED.out uC);clear uC BM;go_wp2_with fail;clear dU;go_wp2_with fail;refine (XJ (.slice A N C) (.slice aA aN aC) known an anchor t d (.slice lA lN lC) l w8 (((dK.out.keep nY.out)).more nY.out.size) (HK.out.later az bf nY.out) lR.out fJ.out mj (qs.out.later br bB nY.out) TY.out (by have:=tH.out.2;omega) ?_).mono ?_
      ·intro i s hi hl;have h1:=tH.out.1;rw[List.getLast?_eq_getElem?,show l.length - 1=i by omega,hi] at h1;exact Option.some.inj h1
      rintro e w9 ⟨fv,fqn,rfl,GE,wO,sV,bM⟩;obtain⟨FR,Nb⟩:=aRZ (Np.fp known anchor t d l.reverse [] []);rw[Nb] at HE GE sV |-;obtain⟨ks,⟨fqs,fqt⟩,fec⟩:=FR;have cZ:=jq (cT.out.trans (bM.mono cT.out.size));have Sk:=jq GE;have Sl:=jq wO;have x9:=jq sV;have jN:=jq (aG.out.trans (cZ.out.mono aG.out.size));have l9:=bM.size;clear Nb GE wO sV bM q0 q1 fq lq p0 p1 y0 y1 y2 y3 y4 y5 y6;have hq:=HQ.out w9 cZ.out;have q0:=ae [_,_] hq 0 _ rfl;have q1:=ae [_,_] hq 1 _ rfl;have fq:∀ i,w9.frozen? ⟨w.heap.size+1,i,none⟩=false:=λi=>by simp[World.frozen?,hq]
      have lq:w.heap.size+1<w9.heap.size:=by have:=cZ.out.size;omega
      clear hq;go_wp2_with fail;refine bodyPost_ret (v:=.tuple #[fv,.agg #[.string fqn,.int .i64 fqt],.int .i64 fec]) (by simp[results,results18,go_sem,q0,q1]) rfl ?_;refine⟨_,fqn,by rw[HE.out],by rw[HE.out];exact Sk.out,Sl.out,?_,(jN.out.blSe (p:=⟨w.heap.size+1,0,none⟩) _).blSe (p:=⟨w.heap.size+1,1,none⟩) _⟩;rw[HE.out];have oN:=cT.out.size;have a7J:=nY.out.size;refine x9.out.keep (Y:=λk=>k<w.heap.size) (by simp[World.setCell]) (λk hk hx=>?_) (λk _ h=>by have h:k<w.heap.size:=h;show k<w8.heap.size;omega);have hx:¬ k<w8.heap.size:=hx;simp only[World.setCell,Array.getElem?_modify];rw[Qc (λe=>hx (by omega)),Qc (λe=>hx (by omega))]
section
variable {α:Type}
def LR(R:aUJ α)(B:Nat)(w:World)(f:FuncId)(cap:Array Value)(p:α->Bool)(xs:List α):Prop:=
 ∀ (W:World) (x:α) (e:List Value),x∈xs->Below B w W->B<=W.heap.size->R W B e x->Calls prog f (#[.agg e.toArray]++cap) W λe w'=>e = .returned (.bool (p x))/\Below W.heap.size W w'
theorem abZ{R:aUJ α}(hK:eh R)(f:FuncId)(eg:∀ args w,(callFunc f args).run prog w = .ok (.enter f args) w)(cap:Array Value)(p:α->Bool)(v:Value)(xs:List α)(w:World)(B:Nat)(hB:B<=w.heap.size)(h:SlR R 5 w B v xs)
 (hp:LR R B w f cap p xs) :
 Calls prog 149 #[v,.func (.func f) #[] cap] w (aUQ w.heap.size w (.int .i64 (mc p xs))):=by
 have H:=jq h;have HP:=jq hp;obtain⟨A,c,rfl,bi,fD,cp⟩:=h;clear cp hp;go_enter func149,ntmps149;go_wp2_with fail;go_loopw [8] (λi wr=>∃ k:Nat,k<=xs.length/\i = .int .i64 k/\Below w.heap.size w wr/\Hid (∀ x∈xs.take k,p x=false)) (λi _=>xs.length - (intOf i).toNat)
 case atStart=>exact⟨0,jQ _,rfl,vQ _ _,jq (by simp)⟩
 case round=>
  obtain⟨k,hk,rfl,hb,HA⟩:=hrel;by_cases af:k<xs.length
  ·have eU:=hb.mono hB;obtain⟨A',c',hA',_,_,dH⟩:=H.out.keep hK eU
   cases hA'
   obtain⟨b,o,e,rfl,dB,hlen,hce,hR⟩:=dH k _ (aQ af)
   match e,hlen with
   | [e0,e1,e2,e3,e4],_=>
   have h0:wr.cell? ⟨b,o+k * 5,none⟩=some e0:=hce 0 _ rfl;have h1:wr.cell? ⟨b,o+k * 5+1,none⟩=some e1:=hce 1 _ rfl;have h2:wr.cell? ⟨b,o+k * 5+2,none⟩=some e2:=hce 2 _ rfl;have h3:wr.cell? ⟨b,o+k * 5+3,none⟩=some e3:=hce 3 _ rfl;have h4:wr.cell? ⟨b,o+k * 5+4,none⟩=some e4:=hce 4 _ rfl;have cO:=HP.out wr xs[k] _ (List.getElem_mem af) eU (by have:=hb.size;omega) hR;have HC:=jq cO;have dW:=jq hb;clear dH hce hR cO eU hb;go_wp2_with (fail);refine HC.out.mono ?_;rintro e w2 ⟨rfl,ag⟩;have ax:=jq ag;clear ag;by_cases bw:p xs[k]=true
   ·have HX:=jq bw;go_wp2_with (fail);go_ret;exact⟨jb (Mw p xs k af HA.out HX.out).symm,dW.out.trans (ax.out.mono dW.out.size)⟩
   ·have pW:p xs[k]=false:=by simpa using bw
    have HX:=jq pW;clear bw;go_wp2_with (fail);go_roundw
    case rel=>
     refine⟨k+1,by omega,by go_num,dW.out.trans (ax.out.mono dW.out.size),jq ?_⟩;rw[fQ af];intro x hx;rcases List.mem_append.1 hx with h | h
     ·exact HA.out x h
     ·simp at h;subst h;exact HX.out
    case measure=>simp[intOf]<;>omega
  ·go_wp2_with fail;go_ret;exact⟨jb (My p xs (by have:=HA.out;rwa [kQ (by omega)] at this)).symm,hb⟩
theorem Mg{R:aUJ α}(hK:eh R)(f:FuncId)(eg:∀ args w,(callFunc f args).run prog w = .ok (.enter f args) w)(cap:Array Value)(p:α->Bool)(v:Value)(xs:List α)(w:World)(B:Nat)(hB:B<=w.heap.size)(h:SlR R 5 w B v xs)
 (hp:LR R B w f cap p xs) :
 Calls prog 83 #[v,.func (.func f) #[] cap] w (aUQ w.heap.size w (.bool (xs.any p))):=by
 have H:=jq h;have HP:=jq hp;have HE:=jq eg;clear h hp eg;go_enter func83,ntmps83;go_wp2_with (go_at_call 149;refine (abZ hK f HE.out cap p v xs w B hB H.out HP.out).mono ?_;rintro e w' ⟨rfl,hb⟩);go_ret;exact⟨aw (Mx p xs),hb⟩
end
theorem Xb:∀ args w,(callFunc 84 args).run prog w = .ok (.enter 84 args) w:=enters_of func84 (by kernel_rfl) rfl
theorem agJ(x:Np.Signed)(e:List Value)(w:World)(hR:bL w w.heap.size)(he:aB w w.heap.size e x) :
 Calls prog 84 #[.agg e.toArray] w (aUQ w.heap.size w (.bool (!Np.bo x.set))):=by
 have HR:=jq hR;obtain⟨s,dA,dn,dc,gA,gn,gc,rfl,hs,au,_,_,hd,_⟩:=gZ he;have HS:=jq hs;have HD:=jq hd;clear hs hd he hR;go_enter func84,ntmps84;go_wp2_with fail;refine (oX s au x.set.type x.set.life _ x.set.data _ ((HR.out.keep (aj w _)).more (by simp)) (HD.out.later br bB (aj w _))).mono ?_;rintro e w2 ⟨rfl,hb⟩;have HB:=jq ((aj w _).trans (hb.mono (by simp)));rw[show (⟨s.data.toList,x.set.type,x.set.life,x.set.data⟩:Np.DSet)=x.set by rw[HS.out]];clear hb;go_wp2_with fail;go_ret;exact⟨rfl,HB.out⟩
def Np.oU(known:List Np.Signed):Bool:=decide (known.length<=400)&&!(known.any λs=>!Np.bo s.set)
theorem agK(kv:Value)(known:List Np.Signed)(w:World)(hR:bL w w.heap.size)(hk:SlR aB 5 w w.heap.size kv known) :
 Calls prog 32 #[kv] w (aUQ w.heap.size w (.bool (Np.oU known))):=by
 have HK:=jq hk;have dK:=jq hR;obtain⟨A,N,C,rfl,hN,_,_⟩:=aM hk;have HN:=jq hN;clear hk hR hN;unfold Np.oU;go_enter func32,ntmps32;by_cases h4:N<=400
 ·have h5:(N:Int)<=400:=by omega
  rw[uQ (by rw[HN.out];exact h4),Bool.true_and];go_wp2_with fail;refine (Mg az 84 Xb #[] (λs:Np.Signed=>!Np.bo s.set) _ known w w.heap.size (bQ _) HK.out ?_).mono ?_
  ·intro W x e hx hW sE oe;exact agJ x e W ((dK.out.keep hW).more hW.size) (bf _ _ _ _ _ oe hW.size)
  rintro e w2 ⟨rfl,hb⟩;go_wp2_with fail;go_ret;exact⟨rfl,hb⟩
 ·have h5:¬ (N:Int)<=400:=by omega
  rw[tQ (by rw[HN.out];exact h4),Bool.false_and];go_wp2_with fail;go_ret;exact⟨rfl,vQ _ _⟩
end
end Go.Proofs.YtadhigmjilijcaaGreatDoor
