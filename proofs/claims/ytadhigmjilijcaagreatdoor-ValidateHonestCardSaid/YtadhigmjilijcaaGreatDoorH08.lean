/- No condition. -/
import Derived.Deep.RegionHeld3
import Derived.Test.YtadhigmjilijcaaGreatDoorH02
import Derived.Test.YtadhigmjilijcaaGreatDoorH03
import Derived.Test.YtadhigmjilijcaaGreatDoorH05
set_option linter.all false
set_option maxRecDepth 100000
set_option maxHeartbeats 8000000
namespace Go.Proofs.YtadhigmjilijcaaGreatDoor
open Go.Proofs.Tryz
section
open Go.RowKit
namespace Np
theorem yr{l:List UInt8}(h:ai l=true):l.length<=60:=by
 unfold ai at h;split at h
 ·rename_i h1;subst h1;simp
 ·split at h
  ·cases h
  ·omega
def DJ(r:Rule):Bool:=decide (0<=r.leastN)&&decide (0<=r.leastM)&&decide (r.mostN<=1000000)&&decide (r.mostM<=1000000)
theorem buK(k:Int):DJ (du k)=true:=by
 have h:∀ i:Nat,DJ (GS.getD i ⟨0,0,0,0,0,false,false,false⟩)=true:=by
  intro i;by_cases hi:i<9
  ·rcases (by omega:i=0\/i=1\/i=2\/i=3\/i=4\/i=5\/i=6\/i=7\/i=8) with rfl | rfl | rfl | rfl | rfl | rfl | rfl | rfl | rfl<;>rfl
  ·rw[List.getD_eq_getElem?_getD,List.getElem?_eq_none (by simp[GS];omega)];rfl
 exact h _
structure DatumOk(d:Datum):Prop where
 text:d.text.length<=60
 n0:0<=d.n
 n1:d.n<=1000000
 m0:0<=d.m
 m1:d.m<=1000000
theorem bIQ{r:Rule}{d:Datum}(hr:DJ r=true)(h:ml r d=true):DatumOk d:=by
 simp[DJ] at hr;simp only[ml,Bool.and_eq_true,Qa] at h;exact⟨bIZ h.2,by omega,by omega,by omega,by omega⟩
theorem QR{r:Rule}(hr:DJ r=true):∀ {ds:List Datum} {p:Option Datum},jy r p ds=true->∀ d∈ds,DatumOk d
 | [],_,_=>by simp
 | d::ds,p,h=>by
   simp only[jy,Bool.and_eq_true] at h;intro x hx;rcases List.mem_cons.1 hx with rfl | hx
   ·exact bIQ hr h.1.1
   ·exact QR hr h.2 x hx
structure SetOk(s:DSet):Prop where
 name:s.name.length<=60
 ty0:1<=s.type
 ty1:s.type<=8
 li0:0<=s.life
 li1:s.life<=100000
 len:s.data.length<=8
 data:∀ d∈s.data,DatumOk d
theorem Vh{s:DSet}(h:bi s=true):SetOk s:=by
 simp only[bi,Bool.and_eq_true,Qa] at h;obtain⟨⟨⟨⟨⟨⟨h1,h2⟩,h3⟩,h4⟩,_⟩,_⟩,h7⟩:=h;exact⟨yr h1,h2.1,h2.2,h3.1,h3.2,h4.2,QR (buK _) h7⟩
def text(l:List UInt8):List UInt8:=UInt8.ofNat l.length::l
def num(n:Int):List UInt8:=(List.range 8).map λi=>UInt8.ofNat (n.toNat / 2 ^ (56 - 8 * i))
def wZ(d:Datum):List UInt8:=text d.text++num d.n++num d.m
def Kt(s:DSet):List UInt8:=text s.name++num s.type++num s.life ++ [UInt8.ofNat s.data.length]
def Ar(s:DSet):List UInt8:=Kt s++s.data.flatMap wZ
theorem Aj(n:Int):(num n).length=8:=by simp[num]
theorem arJ{d:Datum}(h:DatumOk d):(wZ d).length<=80:=by
 have:=h.text
 simp[wZ,text,Aj];omega
theorem JP:∀ {ds:List Datum},(∀ d∈ds,DatumOk d)->(ds.flatMap wZ).length<=80 * ds.length
 | [],_=>by simp
 | d::ds,h=>by
   have h1:=arJ (h d (by simp));have h2:=JP (ds:=ds) (λx hx=>h x (by simp[hx]));simp only[List.flatMap_cons,List.length_append,List.length_cons];omega
end Np
theorem PQ(base:Nat)(v:Value)(bs:List UInt8)(s:ByteArray)(hl:bs.length<=1000000)(hs:s.data.toList.length<=60)(w:World)(hb:base<=w.heap.size)(h:iu w base v bs) :
 Calls prog 127 #[v,.string s] w (ug base v (bs++Np.text s.data.toList) w):=by
 have:=ajZ base v bs s hl (by simp at hs;omega) w hb h
 simpa [Np.text] using this
theorem E5(base:Nat)(v:Value)(bs:List UInt8)(n:Int)(hl:bs.length<=1000000)(h0:0<=n)(h1:n<=1000000)(w:World)(hb:base<=w.heap.size)(h:iu w base v bs) :
 Calls prog 128 #[v,.int .i64 n] w (ug base v (bs++Np.num n) w):=by
 obtain⟨m,rfl⟩:=Int.eq_ofNat_of_zero_le h0;exact ajQ base v bs m hl (by omega) w hb h
theorem iu.bytes{w:World}{base:Nat}{v:Value}{bs:List UInt8}(h:iu w base v bs)(hl:bs.length<=1000000):rk w w.heap.size v (bs.map λc=>(c.toNat:Int)):=by
 rcases h.2 with ⟨rfl,h0⟩ | ⟨g,cap,cur,rfl,hb,hg,mc,_,_,S4⟩
 ·have:bs = []:=rQ h0
  subst this;exact⟨none,0,rfl,by simp,by simp,λi x hx=>by simp at hx⟩
 ·refine⟨some ⟨g,0,none⟩,cap,by simp,by simp;omega,by simpa using mc,λi x hx=>⟨g,0,rfl,?_,(eQ.1 hg).1,?_⟩⟩
  ·have:=(eQ.1 hg).1;omega
  ·have:=h.cells (g:=g) rfl i (.int .u8 x) (by simp at hx |-;exact hx)
   by_cases hi:i=0
   ·subst hi;simpa [Addr.add] using this
   ·simpa [Addr.add,hi] using this
theorem jY(w:World)(o:Obj):Below w.heap.size w (w.alloc o):=(vQ _ w).alloc (bQ _) _
theorem bhY(w:World)(base:Nat):iu w base (.slice none 0 0) []:=⟨rfl,.inl ⟨rfl,rfl⟩⟩
theorem iu.weaken{w:World}{base b:Nat}{v:Value}{bs:List UInt8}(h:iu w base v bs)(hb:b<=base):iu w b v bs:=by
 refine⟨h.1,?_⟩;rcases h.2 with h1 | ⟨g,cap,cur,h1,h2,h3⟩
 ·exact .inl h1
 ·exact .inr ⟨g,cap,cur,h1,yQ hb h2,h3⟩
theorem ug.step{base:Nat}{v:Value}{bs bs':List UInt8}{w w':World}{e:Ending}(h:ug base v bs' w e w')(ho:iu w base v bs)(hb:base<=w.heap.size):∃ A c b',e = .returned (.slice A (List.length b') c)/\Hid (b'=bs')/\iu w' base (.slice A (List.length b') c) b'/\Below base w w':=by
 obtain⟨v',rfl,h1,h2⟩:=h;obtain⟨A,c,rfl⟩:=sF h1;exact⟨A,c,bs',rfl,jq rfl,h1,h2.below ho (bQ _) hb⟩
theorem ug.step2{base g:Nat}{v:Value}{bs bs':List UInt8}{w w':World}{e:Ending}(h:ug base v bs' w e w')(ho:iu w base v bs)(hb:base<=w.heap.size)(hg:v.ownBlock≠some g)(nE:g<w.heap.size) :
 ∃ A c b',e = .returned (.slice A (List.length b') c)/\Hid (b'=bs')/\iu w' base (.slice A (List.length b') c) b'/\Below base w w'/\(Value.slice A (List.length b') c).ownBlock≠some g/\w'.heap[g]?=w.heap[g]?:=by
 obtain⟨v',rfl,h1,h2⟩:=h;obtain⟨A,c,rfl⟩:=sF h1;refine⟨A,c,bs',rfl,jq rfl,h1,h2.below ho (bQ _) hb,?_,h2.grown.block g nE (λe=>hg e.symm)⟩;rcases h2.at_ with e | ⟨k,hk,e⟩
 ·rw[e];exact hg
 ·rw[e];simp;omega
def VI(w5:World)(base:Nat)(b5:List UInt8)(ds:List Np.Datum)(vb i:Value)(wr:World):Prop:=
 ∃ (k:Nat) (A:Option Addr) (c:Nat) (bk:List UInt8),k<=ds.length/\i = .int .i64 k/\vb = .slice A bk.length c/\Hid (bk=b5++(ds.take k).flatMap Np.wZ)/\Hid (iu wr base vb bk)/\Hid (Below base w5 wr)
theorem Ul(s:ByteArray)(hs:s.size<=140737488355328)(ty life:Int)(v:Value)(ds:List Np.Datum)(w:World)(hR:cr w w.heap.size)(hd:SlR cm 3 w w.heap.size v ds)(hval:Np.bi ⟨s.data.toList,ty,life,ds⟩=true) :
 Calls prog 60 #[.agg #[.string s,.int .i64 ty,.int .i64 life,v]] w
  λe w'=>Below w.heap.size w w'/\∃ v',e = .returned (.tuple #[v',.int .i64 0])/\iu w' w.heap.size v' (Np.Ar ⟨s.data.toList,ty,life,ds⟩):=by
 have HR:=jq hR;have HD:=jq hd;have OK:=jq (Np.Vh hval);have HV:=jq hval;obtain⟨A,c,rfl,aR,cP,cZ⟩:=hd;clear hR cZ hval;obtain⟨i0,hi,eu,bG,bL⟩:=info_parts Tryz.infoByteSg;have hd8:ds.length<=8:=OK.out.len;go_enter func60,ntmps60;go_wp2_with (first
  | (go_at_call 33;have hv:=HV.out;clear HV;refine (sH s hs ty life _ ds _ ((HR.out.keep (jY w _)).more (by simp)) ((HD.out.keep bM (jY w _)).more bY (by simp))).mono ?_;rintro e w1 ⟨rfl,av⟩;rw[hv];have cJ:=av.size;simp only[World.size_alloc] at cJ av;have c10:w1.cell? ⟨w.heap.size,0,none⟩=some (.string s):=by { rw[av.cell (by simp)];go_simp };have c11:w1.cell? ⟨w.heap.size,1,none⟩=some (.int .i64 ty):=by { rw[av.cell (by simp)];go_simp };have c12:w1.cell? ⟨w.heap.size,2,none⟩=some (.int .i64 life):=by { rw[av.cell (by simp)];go_simp };have c13:w1.cell? ⟨w.heap.size,3,none⟩=some (.slice A ds.length c):=by { rw[av.cell (by simp)];go_simp };have ay:=jq av;have NS:=jq (bhY w1 (w.heap.size+1));clear av hv)
  | (go_at_call 127;have ho:=NS.out;clear NS;refine (PQ (w.heap.size+1) _ [] s (by simp) OK.out.name _ (by omega) ho).mono ?_;rintro e w2 fo;obtain⟨A2,p2,b2,rfl,gz,qL,ae⟩:=fo.step ho (by omega);have ga:=ae.size;have c20:w2.cell? ⟨w.heap.size,0,none⟩=some (.string s):=by { rw[ae.cell (by simp)];exact c10 };have c21:w2.cell? ⟨w.heap.size,1,none⟩=some (.int .i64 ty):=by { rw[ae.cell (by simp)];exact c11 };have c22:w2.cell? ⟨w.heap.size,2,none⟩=some (.int .i64 life):=by { rw[ae.cell (by simp)];exact c12 };have c23:w2.cell? ⟨w.heap.size,3,none⟩=some (.slice A ds.length c):=by { rw[ae.cell (by simp)];exact c13 };have am:=jq ae;have By:=jq qL;clear fo ae qL ho)
  | (go_at_call 128;have ho:=By.out;clear By;refine (E5 (w.heap.size+1) _ b2 ty (by rw[gz.out];have:=OK.out.name;simp[Np.text];simp at this;omega) (by have:=OK.out.ty0;simp at this;omega) (by have:=OK.out.ty1;simp at this;omega) _ (by omega) ho).mono ?_;rintro e w3 ii;obtain⟨A3,p3,b3,rfl,iY,nF,aq⟩:=ii.step ho (by omega);have bR:=aq.size;have c30:w3.cell? ⟨w.heap.size,0,none⟩=some (.string s):=by { rw[aq.cell (by simp)];exact c20 };have c31:w3.cell? ⟨w.heap.size,1,none⟩=some (.int .i64 ty):=by { rw[aq.cell (by simp)];exact c21 };have c32:w3.cell? ⟨w.heap.size,2,none⟩=some (.int .i64 life):=by { rw[aq.cell (by simp)];exact c22 };have c33:w3.cell? ⟨w.heap.size,3,none⟩=some (.slice A ds.length c):=by { rw[aq.cell (by simp)];exact c23 };have aw:=jq aq;have EC:=jq nF;clear ii aq nF ho)
  | (go_at_call 128;have ho:=EC.out;clear EC;refine (E5 (w.heap.size+1) _ b3 life (by rw[iY.out,gz.out];have:=OK.out.name;simp[Np.text,Np.Aj];simp at this;omega) (by have:=OK.out.li0;simpa using this) (by have:=OK.out.li1;simp at this;omega) _ (by omega) ho).mono ?_;rintro e w4 FW;obtain⟨A4,p4,b4,rfl,mz,tN,aE⟩:=FW.step ho (by omega);have qN:=aE.size;have c40:w4.cell? ⟨w.heap.size,0,none⟩=some (.string s):=by { rw[aE.cell (by simp)];exact c30 };have c41:w4.cell? ⟨w.heap.size,1,none⟩=some (.int .i64 ty):=by { rw[aE.cell (by simp)];exact c31 };have c42:w4.cell? ⟨w.heap.size,2,none⟩=some (.int .i64 life):=by { rw[aE.cell (by simp)];exact c32 };have c43:w4.cell? ⟨w.heap.size,3,none⟩=some (.slice A ds.length c):=by { rw[aE.cell (by simp)];exact c33 };have aX:=jq aE;have wm:=jq tN;clear FW aE tN ho)
  | (at_builtin;have ho:=wm.out;clear wm;have gS:b4.length<=100:=by { rw[mz.out,iY.out,gz.out];have:=OK.out.name;simp[Np.text,Np.Aj];simp at this;omega };refine wpList_append_own_at _ rfl _ _ 108 rfl (w.heap.size+1) 5 i0 (.int .u8 0) 1 1 underlying108 hi eu bG bL rfl (by decide) _ _ _ rfl (World.ownsRow.alloc ho _) ⟨w4.heap.size,0,none⟩ 1 1 [_] rfl rfl (cell_one_new _ _ _) (by simp[Value.oneCell']) (by unfold maxLen;omega) (by omega) (by simp;omega) ?_;intro v5 w5 KP lZ aOX RG;clear aOX;have aO:Below (w.heap.size+1) w4 w5:=((qy lZ RG).of_below (jY w4 _)).below ho (bQ _) (by omega);obtain⟨A5,p5,rfl⟩:=sF (sE (c:=UInt8.ofNat ds.length) (by simp;omega) KP);have yT:=jq (sE (c:=UInt8.ofNat ds.length) (by simp;omega) KP);have zS:=aO.size;have c53:w5.cell? ⟨w.heap.size,3,none⟩=some (.slice A ds.length c):=by { rw[aO.cell (by simp)];exact c43 };have bx:=jq aO;clear KP lZ RG ho aO))
 generalize aO:b4 ++ [UInt8.ofNat ds.length]=b5 at yT;have oT:=jq aO;clear aO;have wI:Hid (Below w.heap.size w w5):=jq ((jY w _).trans ((((ay.out.trans am.out).trans aw.out).trans (aX.out.trans bx.out)).abQ));go_loopw [4,32] (λvb i wr=>VI w5 (w.heap.size+1) b5 ds vb i wr) (λ_ i _=>ds.length - (intOf i).toNat)
 case atStart=>
  have e5:b4.length+1=b5.length:=by rw[<-oT.out];simp
  rw[e5];exact⟨0,A5,p5,b5,jQ _,rfl,rfl,jq (by simp),yT,jq (vQ _ _)⟩
 case round=>
  obtain⟨k,Ak,ck,bk,hk,rfl,rfl,HQ,HO,HB⟩:=hrel;have xV:=HB.out.size;by_cases ag:k<ds.length
  ·obtain⟨A',c',hA',_,_,dS⟩:=HD.out.keep bM (wI.out.trans (HB.out.abQ))
   cases hA'
   obtain⟨g,o,e,rfl,nE,hlen,hce,sd,qP,tS,rfl⟩:=dS k _ (aQ ag);have e0:wr.cell? ⟨g,o+k * 3,none⟩=some (.string sd):=hce 0 _ rfl;have e1:wr.cell? ⟨g,o+k * 3+1,none⟩=some (.int .i64 ds[k].n):=hce 1 _ rfl;have e2:wr.cell? ⟨g,o+k * 3+2,none⟩=some (.int .i64 ds[k].m):=hce 2 _ rfl;have DK:=jq (OK.out.data ds[k] (List.getElem_mem ag));have cY:bk.length<=1000:=by
    rw[HQ.out,<-oT.out,mz.out,iY.out,gz.out];have h1:=OK.out.name;have h2:=Np.JP (ds:=ds.take k) (λd hd=>OK.out.data d (List.mem_of_mem_take hd));simp at h1;simp only[List.length_append,Np.Aj,Np.text,List.length_cons,List.length_nil,List.length_take] at h2 |-;simp only[Array.length_toList,ByteArray.size_data];omega
   have dL:(Value.slice Ak bk.length ck).ownBlock≠some wr.heap.size:=λe=>by have:=(T9 HO.out _ e).2;omega
   have aTK:=jq dL;have uz:=jq qP;clear hce dS dL qP;go_wp2_with (first
    | (go_at_call 127;have ho:=HO.out;clear HO;refine (PQ (w.heap.size+1) _ bk sd (by omega) (by rw[uz.out];exact DK.out.text) _ (by simp;omega) (World.ownsRow.alloc ho _)).mono ?_;rintro e w6 Kw;obtain⟨A6,p6,b6,rfl,rt,Sx,bE,oz,R2⟩:=Kw.step2 (g:=wr.heap.size) (World.ownsRow.alloc ho _) (by simp;omega) aTK.out (by simp);have Gf:=bE.size;simp only[World.size_alloc] at Gf;have Gp:w6.heap[wr.heap.size]?=some (.cells #[.string sd,.int .i64 ds[k].n,.int .i64 ds[k].m] 75):=R2.trans (World.alloc_heap_new _ _);have q61:w6.cell? ⟨wr.heap.size,1,none⟩=some (.int .i64 ds[k].n):=by { unfold World.cell?;rw[Gp];rfl };have q62:w6.cell? ⟨wr.heap.size,2,none⟩=some (.int .i64 ds[k].m):=by { unfold World.cell?;rw[Gp];rfl };have ta:=jq Gp;clear Gp R2;have bH:=jq bE;have kH:=jq Sx;clear Kw bE Sx ho)
    | (go_at_call 128;have ho:=kH.out;clear kH;refine (E5 (w.heap.size+1) _ b6 ds[k].n (by rw[rt.out];have:=DK.out.text;rw[<-uz.out] at this;simp[Np.text];simp at this;omega) DK.out.n0 DK.out.n1 _ (by omega) ho).mono ?_;rintro e w7 RZ;obtain⟨A7,p7,b7,rfl,ww,Sy,bF,hn7,R3⟩:=RZ.step2 (g:=wr.heap.size) ho (by omega) oz (by omega);have hs7:=bF.size;have Gq:w7.heap[wr.heap.size]?=some (.cells #[.string sd,.int .i64 ds[k].n,.int .i64 ds[k].m] 75):=R3.trans ta.out;have q71:w7.cell? ⟨wr.heap.size,1,none⟩=some (.int .i64 ds[k].n):=by { unfold World.cell?;rw[Gq];rfl };have q72:w7.cell? ⟨wr.heap.size,2,none⟩=some (.int .i64 ds[k].m):=by { unfold World.cell?;rw[Gq];rfl };have OE:=jq Gq;clear Gq R3;have cw:=jq bF;have yU:=jq Sy;clear RZ bF Sy ho)
    | (go_at_call 128;have ho:=yU.out;clear yU;refine (E5 (w.heap.size+1) _ b7 ds[k].m (by rw[ww.out,rt.out];have:=DK.out.text;rw[<-uz.out] at this;simp[Np.text,Np.Aj];simp at this;omega) DK.out.m0 DK.out.m1 _ (by omega) ho).mono ?_;rintro e w8 jk;obtain⟨A8,p8,b8,rfl,yZ,kj,cA,hn8,hh8⟩:=jk.step2 (g:=wr.heap.size) ho (by omega) hn7 (by omega);have hs8:=cA.size;skip;have dZ:=jq cA;have Yb:=jq kj;clear jk cA kj ho))
   refine⟨⟨k+1,A8,p8,b8,by omega,rfl,rfl,jq ?_,Yb,jq (HB.out.trans (((jY wr _).abQ).trans ((bH.out.trans cw.out).trans dZ.out)))⟩,by simp[intOf];omega⟩;rw[yZ.out,ww.out,rt.out,HQ.out,List.take_add_one,aQ ag,uz.out,List.flatMap_append];show _=b5++(_++(Np.wZ ds[k] ++ []));simp[Np.wZ,List.append_assoc]
  ·have:k=ds.length:=by omega
   subst this;go_wp2_with fail;go_ret2;refine⟨wI.out.trans (HB.out.abQ),_,rfl,?_⟩
   have:=HO.out.weaken (Nat.le_succ w.heap.size)
   have hq:bk=Np.Ar ⟨s.data.toList,ty,life,ds⟩:=by
    rw[HQ.out,<-oT.out,mz.out,iY.out,gz.out];simp[Np.Ar,Np.Kt]
   rw[<-hq];exact this
def Np.sI(n a:Int):Bool:=decide (1<=n)&&decide (n<=1000000)&&(decide (1<=a)&&decide (a<=3))
def Np.ud(f u:Int):Bool:=decide (0<=f)&&decide (f<=u)&&decide (u<=20000000)
theorem AA(f u:Int)(w:World) :
 Calls prog 59 #[.int .i64 f,.int .i64 u] w λe w'=>e = .returned (.bool (Np.ud f u))/\w'=w:=by
 by_cases h1:0<=f<;>by_cases h2:f<=u<;>by_cases h3:u<=20000000
 all_goals
  go_enter func59,ntmps59;go_wp2_with fail;go_ret;exact⟨by simp_all [Np.ud],rfl⟩
theorem yq(n a:Int)(w:World) :
 Calls prog 58 #[.agg #[.int .i64 n,.int .i64 a]] w (aCX w.heap.size w (.bool (Np.sI n a))):=by
 go_enter func58,ntmps58;go_wp2_with fail
 all_goals
  go_ret;go_light;refine⟨aj ?_,jY _ _⟩;simp_all [Np.sI]<;>omega
def Np.mo(a d:Int):Bool:=decide (0<=a)&&decide (a<=10000000)&&decide (0<=d)&&decide (d<=1000)
theorem Ms(a d:Int)(w:World) :
 Calls prog 50 #[.int .i64 a,.int .i64 d] w λe w'=>e = .returned (.bool (Np.mo a d))/\w'=w:=by
 go_enter func50,ntmps50;go_wp2_with fail
 all_goals
  go_ret;go_light;refine⟨aj ?_,rfl⟩;simp_all [Np.mo]<;>omega
theorem bnJ(s:ByteArray)(hs:s.size<=140737488355328)(ty life:Int)(v:Value)(ds:List Np.Datum)(w:World)(hR:cr w w.heap.size)(hd:SlR cm 3 w w.heap.size v ds)(hval:Np.bi ⟨s.data.toList,ty,life,ds⟩=false) :
 Calls prog 60 #[.agg #[.string s,.int .i64 ty,.int .i64 life,v]] w
  λe w'=>Below w.heap.size w w'/\∃ k:Int,k≠0/\e = .returned (.tuple #[.slice none 0 0,.int .i64 k]):=by
 have HR:=jq hR;have HD:=jq hd;have HV:=jq hval;obtain⟨A,c,rfl,aR,cP,cZ⟩:=hd;clear hR cZ hval;go_enter func60,ntmps60;go_wp2_with (go_at_call 33;refine (sH s hs ty life _ ds _ ((HR.out.keep (jY w _)).more (by simp)) ((HD.out.keep bM (jY w _)).more bY (by simp))).mono ?_;rintro e w1 ⟨rfl,av⟩;rw[HV.out];have ay:=jq av;clear av);go_ret2;exact⟨(jY w _).trans (ay.out.mono (by simp)),_,by decide,rfl⟩
def Np.oL(s:Np.DSet)(sn z:ByteArray)(n a f u:Int):Bool:=Np.sI n a&&(Np.ud f u&&(Np.ai z.data.toList&&(!Np.dC z.data.toList&&(Np.bi s&&Np.under sn z))))
def Np.m9(s:Np.DSet)(z:ByteArray)(n a f u:Int):Int:=Np.sum ((Np.Ar s).map λc=>(c.toNat:Int)) z n a f u
theorem Cz(s:ByteArray)(hs:s.size<=140737488355328)(w:World) :
 Calls prog 49 #[.string s,.string ⟨#[42]⟩] w (aCY w (.bool (Np.dC s.data.toList))):=by
 have h1:1<=s.size->((s.extract 0 1).toList == [42])=Np.dC s.data.toList:=LD s;have h2:s.size<1->Np.dC s.data.toList=false:=λh=>by
  have:s.data.toList = []:=rQ (by rw[bO];omega)
  rw[this];rfl
 have H1:=jq h1;have H2:=jq h2;clear h1 h2;go_enter func49,ntmps49;go_wp2
 ·go_ret;exact⟨aj (H1.out (by omega)),rfl⟩
 ·go_ret;exact⟨aj (H2.out (by omega)).symm,rfl⟩
theorem UP(s:ByteArray)(hs:s.size<=140737488355328)(ty life:Int)(v:Value)(ds:List Np.Datum)(z:ByteArray)(hz:z.size<=140737488355328)(n a f u:Int)(w:World)(hR:cr w w.heap.size)(hd:SlR cm 3 w w.heap.size v ds)
 (fe:Np.oL ⟨s.data.toList,ty,life,ds⟩ s z n a f u=true) :
 Calls prog 23 #[.agg #[.string s,.int .i64 ty,.int .i64 life,v],.string z,.agg #[.int .i64 n,.int .i64 a],.int .i64 f,.int .i64 u] w
  λe w'=>e = .returned (.tuple #[.agg #[.string z,.int .i64 n,.int .i64 a,.int .i64 f,.int .i64 u,.int .u64 (Np.m9 ⟨s.data.toList,ty,life,ds⟩ z n a f u)],.int .i64 0])/\Below w.heap.size w w':=by
 have HR:=jq hR;have HD:=jq hd;simp only[Np.oL,Bool.and_eq_true,Bool.not_eq_true'] at fe;obtain⟨k1,k2,k3,k4,k5,k6⟩:=fe;have OK:=jq (Np.Vh k5);have lp:=Np.yr k3;have HZ:=jq lp;have K1:=jq k1;have K2:=jq k2;have K3:=jq k3;have K4:=jq k4;have K5:=jq k5;have K6:=jq k6;obtain⟨A,c,rfl,aR,cP,cZ⟩:=hd;clear hR cZ k1 k2 k3 k4 k5 k6 lp;go_enter func23,ntmps23;go_wp2_with fail;refine (yq n a _).mono ?_;rintro e w1 ⟨rfl,hb⟩;rw[K1.out];obtain⟨c1,f1⟩:=eh hb;have HB:=jq hb;have z1:=hb.size;simp only[World.size_alloc] at z1;clear hb;go_wp2_with fail;refine (AA f u _).mono ?_;rintro e w' ⟨rfl,rfl⟩;rw[K2.out];go_wp2_with fail;refine (nameValid_any z hz _).mono ?_;rintro e w2 ⟨rfl,hb⟩;rw[K3.out];replace hb:=HB.out.trans (hb.mono (by simp;omega));clear HB c1 f1 z1;obtain⟨c1,f1⟩:=eh hb;have HB:=jq hb;have z1:=hb.size;simp only[World.size_alloc] at z1;clear hb;go_wp2_with fail;refine (Cz z hz _).mono ?_;rintro e w' ⟨rfl,rfl⟩;rw[K4.out];go_wp2_with fail;refine (Ul s hs ty life _ ds _ ?_ ?_ K5.out).mono ?_
 ·exact (HR.out.keep (((((vQ _ w).alloc (bQ _) _).alloc (by simp) _).alloc (by simp;omega) _).trans (HB.out.mono (by simp;omega)))).more (by omega)
 ·exact (HD.out.keep bM (((((vQ _ w).alloc (bQ _) _).alloc (by simp) _).alloc (by simp;omega) _).trans (HB.out.mono (by simp;omega)))).more bY (by omega)
 rintro e w3 ⟨hb,v',rfl,hown⟩;replace hb:=HB.out.trans (hb.mono (by simp;omega));clear HB c1 f1 z1;obtain⟨c1,f1⟩:=eh hb;have HB:=jq hb;have z1:=hb.size;simp only[World.size_alloc] at z1;have HO:=jq hown;clear hb hown;go_wp2_with fail;refine (vJ s z hs hz _ ?_ K3.out).mono ?_
 ·have:=K5.out;simp only[Np.bi,Bool.and_eq_true] at this;exact this.1.1.1.1.1.1
 rintro e w4 ⟨rfl,hb⟩;rw[<-Mp,K6.out];have aX:=jq hb;replace hb:=HB.out.trans (hb.mono (by simp;omega));clear HB c1 f1 z1;obtain⟨c1,f1⟩:=eh hb;have HB:=jq hb;have z1:=hb.size;simp only[World.size_alloc] at z1;clear hb;go_wp2_with fail;have HY:Hid (rk w4 w4.heap.size v' ((Np.Ar ⟨s.data.toList,ty,life,ds⟩).map λc=>(c.toNat:Int))):=jq ((HO.out.bytes (by
  have h1:=Np.JP OK.out.data;have h2:=OK.out.len;have h3:=OK.out.name;simp only[Np.Ar,Np.Kt,List.length_append,Np.text,Np.Aj,List.length_cons,List.length_nil] at *;omega)).grow aX.out (aX.out.size))
 have a1Z:z.size<=255:=by have:=HZ.out;simp at this;omega
 have k0:w4.cell? ⟨w.heap.size+1,0,none⟩=some (.int .i64 n):=by rw[c1 _ _ (by simp)];go_simp
 have k1:w4.cell? ⟨w.heap.size+1,1,none⟩=some (.int .i64 a):=by rw[c1 _ _ (by simp)];go_simp
 clear c1 f1;go_region_held3 (λw'=>w'.cell? ⟨w.heap.size+1,0,none⟩=some (.int .i64 n)/\w'.cell? ⟨w.heap.size+1,1,none⟩=some (.int .i64 a))
  (go_keep)
  (first
    | (go_at_call 62;refine (bEK _ _ z a1Z n a f u _ (HY.out.grow (Below.drew (vQ _ _)) (bQ _))).mono ?_;rintro e w5 ⟨rfl,aO⟩;obtain⟨c5,f5⟩:=eh (HB.out.drew.trans (aO.mono (by simp;omega)));have bx:=jq aO;clear aO))
 go_wp2_with fail;refine bodyPost_ret (v:=.tuple #[.agg #[.string z,.int .i64 n,.int .i64 a,.int .i64 f,.int .i64 u,.int .u64 (Np.m9 ⟨s.data.toList,ty,life,ds⟩ z n a f u)],.int .i64 0]) (by simp[results,results23,go_sem,c5];rfl) rfl ⟨rfl,?_⟩;have aT:Below w.heap.size w w5:=((((vQ _ w).alloc (bQ _) _).alloc (by simp) _).alloc (by simp;omega) _).trans ((HB.out.drew.trans (bx.out.mono (by simp;omega))).mono (by simp;omega))
 repeat refine Below.setCell ?_ (by simp<;>omega) _
 exact aT
theorem byX(s:ByteArray)(ty life:Int)(v:Value)(ds:List Np.Datum)(z:ByteArray)(n a f u:Int)(w:World)(hR:cr w w.heap.size)(hd:SlR cm 3 w w.heap.size v ds)
 (k1:Np.sI n a=false) :
 Calls prog 23 #[.agg #[.string s,.int .i64 ty,.int .i64 life,v],.string z,.agg #[.int .i64 n,.int .i64 a],.int .i64 f,.int .i64 u] w
  λe w'=>e = .returned (.tuple #[.agg #[.string ⟨#[]⟩,.int .i64 0,.int .i64 0,.int .i64 0,.int .i64 0,.int .u64 0],.int .i64 1])/\Below w.heap.size w w':=by
 have HR:=jq hR;have HD:=jq hd;have K1:=jq k1;obtain⟨A,c,rfl,aR,cP,cZ⟩:=hd;clear hR cZ k1;go_enter func23,ntmps23;go_wp2_with fail;refine (yq n a _).mono ?_;rintro e w1 ⟨rfl,hb⟩;rw[K1.out];obtain⟨c1,f1⟩:=eh hb;have HB:=jq hb;have z1:=hb.size;simp only[World.size_alloc] at z1;clear hb;go_wp2_with fail;refine bodyPost_ret (v:=.tuple #[.agg #[.string ⟨#[]⟩,.int .i64 0,.int .i64 0,.int .i64 0,.int .i64 0,.int .u64 0],.int .i64 1]) (by simp[results,results23,go_sem,c1]) rfl ⟨rfl,?_⟩;have aT:Below w.heap.size w _:=((((vQ _ w).alloc (bQ _) _).alloc (by simp) _).alloc (by simp;omega) _).trans (HB.out.mono (by simp;omega))
 repeat refine Below.setCell ?_ (by simp<;>omega) _
 exact aT
theorem byY(s:ByteArray)(ty life:Int)(v:Value)(ds:List Np.Datum)(z:ByteArray)(n a f u:Int)(w:World)(hR:cr w w.heap.size)(hd:SlR cm 3 w w.heap.size v ds)
 (k1:Np.sI n a=true) (k2:Np.ud f u=false) :
 Calls prog 23 #[.agg #[.string s,.int .i64 ty,.int .i64 life,v],.string z,.agg #[.int .i64 n,.int .i64 a],.int .i64 f,.int .i64 u] w
  λe w'=>e = .returned (.tuple #[.agg #[.string ⟨#[]⟩,.int .i64 0,.int .i64 0,.int .i64 0,.int .i64 0,.int .u64 0],.int .i64 1])/\Below w.heap.size w w':=by
 have HR:=jq hR;have HD:=jq hd;have K1:=jq k1;have K2:=jq k2;obtain⟨A,c,rfl,aR,cP,cZ⟩:=hd;clear hR cZ k1 k2;go_enter func23,ntmps23;go_wp2_with fail;refine (yq n a _).mono ?_;rintro e w1 ⟨rfl,hb⟩;rw[K1.out];obtain⟨c1,f1⟩:=eh hb;have HB:=jq hb;have z1:=hb.size;simp only[World.size_alloc] at z1;clear hb;go_wp2_with fail;refine (AA f u _).mono ?_;rintro e w' ⟨rfl,rfl⟩;rw[K2.out];go_wp2_with fail;refine bodyPost_ret (v:=.tuple #[.agg #[.string ⟨#[]⟩,.int .i64 0,.int .i64 0,.int .i64 0,.int .i64 0,.int .u64 0],.int .i64 1]) (by simp[results,results23,go_sem,c1]) rfl ⟨rfl,?_⟩;have aT:Below w.heap.size w _:=((((vQ _ w).alloc (bQ _) _).alloc (by simp) _).alloc (by simp;omega) _).trans (HB.out.mono (by simp;omega))
 repeat refine Below.setCell ?_ (by simp<;>omega) _
 exact aT
theorem bzQ(s:ByteArray)(ty life:Int)(v:Value)(ds:List Np.Datum)(z:ByteArray)(hz:z.size<=140737488355328)(n a f u:Int)(w:World)(hR:cr w w.heap.size)(hd:SlR cm 3 w w.heap.size v ds)
 (k1:Np.sI n a=true) (k2:Np.ud f u=true) (k3:Np.ai z.data.toList=false) :
 Calls prog 23 #[.agg #[.string s,.int .i64 ty,.int .i64 life,v],.string z,.agg #[.int .i64 n,.int .i64 a],.int .i64 f,.int .i64 u] w
  λe w'=>e = .returned (.tuple #[.agg #[.string ⟨#[]⟩,.int .i64 0,.int .i64 0,.int .i64 0,.int .i64 0,.int .u64 0],.int .i64 1])/\Below w.heap.size w w':=by
 have HR:=jq hR;have HD:=jq hd;have K1:=jq k1;have K2:=jq k2;have K3:=jq k3;obtain⟨A,c,rfl,aR,cP,cZ⟩:=hd;clear hR cZ k1 k2 k3;go_enter func23,ntmps23;go_wp2_with fail;refine (yq n a _).mono ?_;rintro e w1 ⟨rfl,hb⟩;rw[K1.out];obtain⟨c1,f1⟩:=eh hb;have HB:=jq hb;have z1:=hb.size;simp only[World.size_alloc] at z1;clear hb;go_wp2_with fail;refine (AA f u _).mono ?_;rintro e w' ⟨rfl,rfl⟩;rw[K2.out];go_wp2_with fail;refine (nameValid_any z hz _).mono ?_;rintro e w2 ⟨rfl,hb⟩;rw[K3.out];replace hb:=HB.out.trans (hb.mono (by simp;omega));clear HB c1 f1 z1;obtain⟨c1,f1⟩:=eh hb;have HB:=jq hb;have z1:=hb.size;simp only[World.size_alloc] at z1;clear hb;go_wp2_with fail;refine bodyPost_ret (v:=.tuple #[.agg #[.string ⟨#[]⟩,.int .i64 0,.int .i64 0,.int .i64 0,.int .i64 0,.int .u64 0],.int .i64 1]) (by simp[results,results23,go_sem,c1]) rfl ⟨rfl,?_⟩;have aT:Below w.heap.size w _:=((((vQ _ w).alloc (bQ _) _).alloc (by simp) _).alloc (by simp;omega) _).trans (HB.out.mono (by simp;omega))
 repeat refine Below.setCell ?_ (by simp<;>omega) _
 exact aT
theorem bzZ(s:ByteArray)(ty life:Int)(v:Value)(ds:List Np.Datum)(z:ByteArray)(hz:z.size<=140737488355328)(n a f u:Int)(w:World)(hR:cr w w.heap.size)(hd:SlR cm 3 w w.heap.size v ds)
 (k1:Np.sI n a=true) (k2:Np.ud f u=true) (k3:Np.ai z.data.toList=true) (k4:Np.dC z.data.toList=true) :
 Calls prog 23 #[.agg #[.string s,.int .i64 ty,.int .i64 life,v],.string z,.agg #[.int .i64 n,.int .i64 a],.int .i64 f,.int .i64 u] w
  λe w'=>e = .returned (.tuple #[.agg #[.string ⟨#[]⟩,.int .i64 0,.int .i64 0,.int .i64 0,.int .i64 0,.int .u64 0],.int .i64 1])/\Below w.heap.size w w':=by
 have HR:=jq hR;have HD:=jq hd;have K1:=jq k1;have K2:=jq k2;have K3:=jq k3;have K4:=jq k4;obtain⟨A,c,rfl,aR,cP,cZ⟩:=hd;clear hR cZ k1 k2 k3 k4;go_enter func23,ntmps23;go_wp2_with fail;refine (yq n a _).mono ?_;rintro e w1 ⟨rfl,hb⟩;rw[K1.out];obtain⟨c1,f1⟩:=eh hb;have HB:=jq hb;have z1:=hb.size;simp only[World.size_alloc] at z1;clear hb;go_wp2_with fail;refine (AA f u _).mono ?_;rintro e w' ⟨rfl,rfl⟩;rw[K2.out];go_wp2_with fail;refine (nameValid_any z hz _).mono ?_;rintro e w2 ⟨rfl,hb⟩;rw[K3.out];replace hb:=HB.out.trans (hb.mono (by simp;omega));clear HB c1 f1 z1;obtain⟨c1,f1⟩:=eh hb;have HB:=jq hb;have z1:=hb.size;simp only[World.size_alloc] at z1;clear hb;go_wp2_with fail;refine (Cz z hz _).mono ?_;rintro e w' ⟨rfl,rfl⟩;rw[K4.out];go_wp2_with fail;refine bodyPost_ret (v:=.tuple #[.agg #[.string ⟨#[]⟩,.int .i64 0,.int .i64 0,.int .i64 0,.int .i64 0,.int .u64 0],.int .i64 1]) (by simp[results,results23,go_sem,c1]) rfl ⟨rfl,?_⟩;have aT:Below w.heap.size w _:=((((vQ _ w).alloc (bQ _) _).alloc (by simp) _).alloc (by simp;omega) _).trans (HB.out.mono (by simp;omega))
 repeat refine Below.setCell ?_ (by simp<;>omega) _
 exact aT
theorem bzJ(s:ByteArray)(hs:s.size<=140737488355328)(ty life:Int)(v:Value)(ds:List Np.Datum)(z:ByteArray)(hz:z.size<=140737488355328)(n a f u:Int)(w:World)(hR:cr w w.heap.size)(hd:SlR cm 3 w w.heap.size v ds)
 (k1:Np.sI n a=true) (k2:Np.ud f u=true) (k3:Np.ai z.data.toList=true) (k4:Np.dC z.data.toList=false) (k5:Np.bi ⟨s.data.toList,ty,life,ds⟩=false) :
 Calls prog 23 #[.agg #[.string s,.int .i64 ty,.int .i64 life,v],.string z,.agg #[.int .i64 n,.int .i64 a],.int .i64 f,.int .i64 u] w
  λe w'=>e = .returned (.tuple #[.agg #[.string ⟨#[]⟩,.int .i64 0,.int .i64 0,.int .i64 0,.int .i64 0,.int .u64 0],.int .i64 1])/\Below w.heap.size w w':=by
 have HR:=jq hR;have HD:=jq hd;have K1:=jq k1;have K2:=jq k2;have K3:=jq k3;have K4:=jq k4;have K5:=jq k5;obtain⟨A,c,rfl,aR,cP,cZ⟩:=hd;clear hR cZ k1 k2 k3 k4 k5;go_enter func23,ntmps23;go_wp2_with fail;refine (yq n a _).mono ?_;rintro e w1 ⟨rfl,hb⟩;rw[K1.out];obtain⟨c1,f1⟩:=eh hb;have HB:=jq hb;have z1:=hb.size;simp only[World.size_alloc] at z1;clear hb;go_wp2_with fail;refine (AA f u _).mono ?_;rintro e w' ⟨rfl,rfl⟩;rw[K2.out];go_wp2_with fail;refine (nameValid_any z hz _).mono ?_;rintro e w2 ⟨rfl,hb⟩;rw[K3.out];replace hb:=HB.out.trans (hb.mono (by simp;omega));clear HB c1 f1 z1;obtain⟨c1,f1⟩:=eh hb;have HB:=jq hb;have z1:=hb.size;simp only[World.size_alloc] at z1;clear hb;go_wp2_with fail;refine (Cz z hz _).mono ?_;rintro e w' ⟨rfl,rfl⟩;rw[K4.out];go_wp2_with fail;refine (bnJ s hs ty life _ ds _ ?_ ?_ K5.out).mono ?_
 ·exact (HR.out.keep (((((vQ _ w).alloc (bQ _) _).alloc (by simp) _).alloc (by simp;omega) _).trans (HB.out.mono (by simp;omega)))).more (by omega)
 ·exact (HD.out.keep bM (((((vQ _ w).alloc (bQ _) _).alloc (by simp) _).alloc (by simp;omega) _).trans (HB.out.mono (by simp;omega)))).more bY (by omega)
 rintro e w3 ⟨hb,k,hk,rfl⟩;have hk':(k != 0)=true:=by simp[hk]
 clear hk;replace hb:=HB.out.trans (hb.mono (by simp;omega));clear HB c1 f1 z1;obtain⟨c1,f1⟩:=eh hb;have HB:=jq hb;have z1:=hb.size;simp only[World.size_alloc] at z1;clear hb;go_wp2_with fail;refine bodyPost_ret (v:=.tuple #[.agg #[.string ⟨#[]⟩,.int .i64 0,.int .i64 0,.int .i64 0,.int .i64 0,.int .u64 0],.int .i64 1]) (by simp[results,results23,go_sem,c1]) rfl ⟨rfl,?_⟩;have aT:Below w.heap.size w _:=((((vQ _ w).alloc (bQ _) _).alloc (by simp) _).alloc (by simp;omega) _).trans (HB.out.mono (by simp;omega))
 repeat refine Below.setCell ?_ (by simp<;>omega) _
 exact aT
theorem bzK(s:ByteArray)(hs:s.size<=140737488355328)(ty life:Int)(v:Value)(ds:List Np.Datum)(z:ByteArray)(hz:z.size<=140737488355328)(n a f u:Int)(w:World)(hR:cr w w.heap.size)(hd:SlR cm 3 w w.heap.size v ds)
 (k1:Np.sI n a=true) (k2:Np.ud f u=true) (k3:Np.ai z.data.toList=true) (k4:Np.dC z.data.toList=false) (k5:Np.bi ⟨s.data.toList,ty,life,ds⟩=true) (k6:Np.under s z=false) :
 Calls prog 23 #[.agg #[.string s,.int .i64 ty,.int .i64 life,v],.string z,.agg #[.int .i64 n,.int .i64 a],.int .i64 f,.int .i64 u] w
  λe w'=>e = .returned (.tuple #[.agg #[.string ⟨#[]⟩,.int .i64 0,.int .i64 0,.int .i64 0,.int .i64 0,.int .u64 0],.int .i64 1])/\Below w.heap.size w w':=by
 have HR:=jq hR;have HD:=jq hd;have K1:=jq k1;have K2:=jq k2;have K3:=jq k3;have K4:=jq k4;have K5:=jq k5;have K6:=jq k6;obtain⟨A,c,rfl,aR,cP,cZ⟩:=hd;clear hR cZ k1 k2 k3 k4 k5 k6;go_enter func23,ntmps23;go_wp2_with fail;refine (yq n a _).mono ?_;rintro e w1 ⟨rfl,hb⟩;rw[K1.out];obtain⟨c1,f1⟩:=eh hb;have HB:=jq hb;have z1:=hb.size;simp only[World.size_alloc] at z1;clear hb;go_wp2_with fail;refine (AA f u _).mono ?_;rintro e w' ⟨rfl,rfl⟩;rw[K2.out];go_wp2_with fail;refine (nameValid_any z hz _).mono ?_;rintro e w2 ⟨rfl,hb⟩;rw[K3.out];replace hb:=HB.out.trans (hb.mono (by simp;omega));clear HB c1 f1 z1;obtain⟨c1,f1⟩:=eh hb;have HB:=jq hb;have z1:=hb.size;simp only[World.size_alloc] at z1;clear hb;go_wp2_with fail;refine (Cz z hz _).mono ?_;rintro e w' ⟨rfl,rfl⟩;rw[K4.out];go_wp2_with fail;refine (Ul s hs ty life _ ds _ ?_ ?_ K5.out).mono ?_
 ·exact (HR.out.keep (((((vQ _ w).alloc (bQ _) _).alloc (by simp) _).alloc (by simp;omega) _).trans (HB.out.mono (by simp;omega)))).more (by omega)
 ·exact (HD.out.keep bM (((((vQ _ w).alloc (bQ _) _).alloc (by simp) _).alloc (by simp;omega) _).trans (HB.out.mono (by simp;omega)))).more bY (by omega)
 rintro e w3 ⟨hb,v',rfl,hown⟩;replace hb:=HB.out.trans (hb.mono (by simp;omega));clear HB c1 f1 z1;obtain⟨c1,f1⟩:=eh hb;have HB:=jq hb;have z1:=hb.size;simp only[World.size_alloc] at z1;have HO:=jq hown;clear hb hown;go_wp2_with fail;refine (vJ s z hs hz _ ?_ K3.out).mono ?_
 ·have:=K5.out;simp only[Np.bi,Bool.and_eq_true] at this;exact this.1.1.1.1.1.1
 rintro e w4 ⟨rfl,hb⟩;rw[<-Mp,K6.out];have aX:=jq hb;replace hb:=HB.out.trans (hb.mono (by simp;omega));clear HB c1 f1 z1;obtain⟨c1,f1⟩:=eh hb;have HB:=jq hb;have z1:=hb.size;simp only[World.size_alloc] at z1;clear hb;go_wp2_with fail;refine bodyPost_ret (v:=.tuple #[.agg #[.string ⟨#[]⟩,.int .i64 0,.int .i64 0,.int .i64 0,.int .i64 0,.int .u64 0],.int .i64 1]) (by simp[results,results23,go_sem,c1]) rfl ⟨rfl,?_⟩;have aT:Below w.heap.size w _:=((((vQ _ w).alloc (bQ _) _).alloc (by simp) _).alloc (by simp;omega) _).trans (HB.out.mono (by simp;omega))
 repeat refine Below.setCell ?_ (by simp<;>omega) _
 exact aT
theorem byK(s:ByteArray)(hs:s.size<=140737488355328)(ty life:Int)(v:Value)(ds:List Np.Datum)(z:ByteArray)(hz:z.size<=140737488355328)(n a f u:Int)(w:World)(hR:cr w w.heap.size)(hd:SlR cm 3 w w.heap.size v ds)
 (fe:Np.oL ⟨s.data.toList,ty,life,ds⟩ s z n a f u=false) :
 Calls prog 23 #[.agg #[.string s,.int .i64 ty,.int .i64 life,v],.string z,.agg #[.int .i64 n,.int .i64 a],.int .i64 f,.int .i64 u] w
  λe w'=>e = .returned (.tuple #[.agg #[.string ⟨#[]⟩,.int .i64 0,.int .i64 0,.int .i64 0,.int .i64 0,.int .u64 0],.int .i64 1])/\Below w.heap.size w w':=by
 by_cases k1:Np.sI n a=true
 ·by_cases k2:Np.ud f u=true
  ·by_cases k3:Np.ai z.data.toList=true
   ·by_cases k4:Np.dC z.data.toList=false
    ·by_cases k5:Np.bi ⟨s.data.toList,ty,life,ds⟩=true
     ·exact bzK s hs ty life v ds z hz n a f u w hR hd k1 k2 k3 k4 k5 (by simpa [Np.oL,k1,k2,k3,k4,k5] using fe)
     ·exact bzJ s hs ty life v ds z hz n a f u w hR hd k1 k2 k3 k4 (by simpa using k5)
    ·exact bzZ s ty life v ds z hz n a f u w hR hd k1 k2 k3 (by simpa using k4)
   ·exact bzQ s ty life v ds z hz n a f u w hR hd k1 k2 (by simpa using k3)
  ·exact byY s ty life v ds z n a f u w hR hd k1 (by simpa using k2)
 ·exact byX s ty life v ds z n a f u w hR hd (by simpa using k1)
def Np.E8(s:Np.DSet)(sn z:ByteArray)(key alg f u sum n a:Int):Bool:=Np.oL s sn z n a f u&&(decide (key=n)&&(decide (alg=a)&&decide (sum=Np.m9 s z n a f u)))
theorem anZ(s:ByteArray)(hs:s.size<=140737488355328)(ty life:Int)(v:Value)(ds:List Np.Datum)(z:ByteArray)(hz:z.size<=140737488355328)(key alg f u sum n a:Int)(w:World)(hR:cr w w.heap.size)(hd:SlR cm 3 w w.heap.size v ds) :
 Calls prog 22 #[.agg #[.string s,.int .i64 ty,.int .i64 life,v],.agg #[.string z,.int .i64 key,.int .i64 alg,.int .i64 f,.int .i64 u,.int .u64 sum],.agg #[.int .i64 n,.int .i64 a]] w
  λe w'=>e = .returned (.bool (Np.E8 ⟨s.data.toList,ty,life,ds⟩ s z key alg f u sum n a))/\Below w.heap.size w w':=by
 have HR:=jq hR;have HD:=jq hd;obtain⟨A,c,rfl,aR,cP,cZ⟩:=hd;clear hR cZ;have oj:∀ o1 o2 o3:Obj,Below w.heap.size w (((w.alloc o1).alloc o2).alloc o3):=λo1 o2 o3=>(((vQ _ w).alloc (bQ _) _).alloc (by simp) _).alloc (by simp;omega) _;have aD:=jq oj;clear oj;by_cases fe:Np.oL ⟨s.data.toList,ty,life,ds⟩ s z n a f u=true
 ·have OK:=jq fe;clear fe;go_enter func22,ntmps22;go_wp2_with fail;refine (UP s hs ty life _ ds z hz n a f u _ ?_ ?_ OK.out).mono ?_
  ·exact (HR.out.keep (aD.out _ _ _)).more (by simp;omega)
  ·exact (HD.out.keep bM (aD.out _ _ _)).more bY (by simp;omega)
  rintro e w1 ⟨rfl,hb⟩;obtain⟨c1,f1⟩:=eh hb;have z1:=hb.size;simp only[World.size_alloc] at z1;have HB:=jq ((aD.out _ _ _).trans (hb.mono (by simp;omega)));have l1:w.heap.size+1<w1.heap.size:=by omega
  clear hb;go_wp2_with fail
  all_goals
   go_ret;refine⟨aj ?_,HB.out.alloc (by omega) _⟩;have ok:=OK.out;go_light;simp_all [Np.E8]<;>(intros;subst_vars;first | omega | simp_all)
 ·have OK:=jq (show Np.oL ⟨s.data.toList,ty,life,ds⟩ s z n a f u=false by simpa using fe);clear fe;go_enter func22,ntmps22;go_wp2_with fail;refine (byK s hs ty life _ ds z hz n a f u _ ?_ ?_ OK.out).mono ?_
  ·exact (HR.out.keep (aD.out _ _ _)).more (by simp;omega)
  ·exact (HD.out.keep bM (aD.out _ _ _)).more bY (by simp;omega)
  rintro e w1 ⟨rfl,hb⟩;obtain⟨c1,f1⟩:=eh hb;have z1:=hb.size;simp only[World.size_alloc] at z1;have HB:=jq ((aD.out _ _ _).trans (hb.mono (by simp;omega)));have l1:w.heap.size+1<w1.heap.size:=by omega
  clear hb;go_wp2_with fail;go_ret;refine⟨aj ?_,HB.out.alloc (by omega) _⟩;rw[Np.E8,OK.out];rfl
theorem Fk{α:Type}(p:α->Bool)(xs:List α)(k:Nat)(hk:k<xs.length)(h:∀ x∈xs.take k,p x=false)(hx:p xs[k]=true):xs.find? p=some xs[k]:=by
 induction xs generalizing k with
 | nil=>simp at hk
 | cons x r ih=>
  cases k with
  | zero=>simp at hx;simp[hx]
  | succ k=>
   have h0:p x=false:=h x (by simp);rw[List.find?_cons_of_neg (by simp[h0])];exact ih k (by simpa using hk) (λy hy=>h y (by simp[hy])) (by simpa using hx)
structure Np.Key where
 n:Int
 alg:Int
deriving DecidableEq
def kK(_:World)(_:Nat)(e:List Value)(k:Np.Key):Prop:=e = [.int .i64 k.n,.int .i64 k.alg]
theorem re:dR kK:=λ_ _ _ _ _ h _=>h
theorem At:ef kK:=λ_ _ _ _ _ h _=>h
def aeY(B:Nat)(w:World)(f:FuncId)(cap:Array Value)(p:Np.Sig->Bool)(xs:List Np.Sig):Prop:=
 ∀ (W:World) (x:Np.Sig) (e:List Value),x∈xs->Below B w W->B<=W.heap.size->en W B e x->Calls prog f (#[.agg e.toArray]++cap) W λe w'=>e = .returned (.bool (p x))/\Below W.heap.size W w'
def VP(B:Nat)(w:World)(p:Np.Sig->Bool)(xs:List Np.Sig)(e:Ending)(w':World):Prop:=
 ∃ (s:ByteArray) (a b c d q:Int),e = .returned (.tuple #[.agg #[.string s,.int .i64 a,.int .i64 b,.int .i64 c,.int .i64 d,.int .u64 q],.bool (xs.any p)])/\Below w.heap.size w w'/\(∀ x,xs.find? p=some x->en w B [.string s,.int .i64 a,.int .i64 b,.int .i64 c,.int .i64 d,.int .u64 q] x)/\(xs.any p=false->([.string s,.int .i64 a,.int .i64 b,.int .i64 c,.int .i64 d,.int .u64 q]:List Value) = [.string ⟨#[]⟩,.int .i64 0,.int .i64 0,.int .i64 0,.int .i64 0,.int .u64 0])
theorem ayY(f:FuncId)(eg:∀ args w,(callFunc f args).run prog w = .ok (.enter f args) w)(cap:Array Value)(p:Np.Sig->Bool)(v:Value)(xs:List Np.Sig)(w:World)(B:Nat)(hB:B<=w.heap.size)(h:SlR en 6 w B v xs)
 (hp:aeY B w f cap p xs) :
 Calls prog 162 #[v,.func (.func f) #[] cap] w (VP B w p xs):=by
 have H:=jq h;have HP:=jq hp;obtain⟨A,c,rfl,aR,cP,cZ⟩:=h;clear cZ hp;go_enter func162,ntmps162;go_wp2_with fail;go_loopw [11] (λi wr=>∃ k:Nat,k<=xs.length/\i = .int .i64 k/\Below (w.heap.size+1) (w.alloc (.cells #[.string ⟨#[]⟩,.int .i64 0,.int .i64 0,.int .i64 0,.int .i64 0,.int .u64 0] 56)) wr/\Hid (∀ x∈xs.take k,p x=false)) (λi _=>xs.length - (intOf i).toNat)
 case atStart=>exact⟨0,jQ _,rfl,vQ _ _,jq (by simp)⟩
 case round=>
  obtain⟨k,hk,rfl,hb,HA⟩:=hrel;have aT:Below w.heap.size w wr:=((vQ _ w).alloc (bQ _) _).trans (hb.abQ);have aB:=hb.size;simp only[World.size_alloc] at aB;have ed:=jq hb;have bN:=jq aT;clear hb aT;by_cases ag:k<xs.length
  ·have cX:=bN.out.mono hB;obtain⟨A',c',hA',_,_,dS⟩:=H.out.keep dG cX
   cases hA'
   obtain⟨b,o,e,rfl,cO,hlen,hce,hR⟩:=dS k _ (aQ ag);obtain⟨_,_,rJ,_,_,uS⟩:=H.out
   cases rJ
   obtain⟨b0,o0,e',cL,RL,CW,uR,rM⟩:=uS k _ (aQ ag)
   cases cL
   have tA:e'=e:=by
    refine List.ext_getElem? λj=>?_;rcases Nat.lt_or_ge j 6 with hj | hj
    ·have h1:=hce j _ (aQ (by omega));have h2:=uR j _ (aQ (by omega));rw[cX.cell (by exact cO),h2] at h1;rw[aQ (by omega),aQ (by omega)];exact h1
    ·rw[List.getElem?_eq_none (by omega),List.getElem?_eq_none (by omega)]
   subst tA;have sT:=jq rM;clear uS uR rM CW;have hR':=hR;obtain⟨sz,qQ,oE,rfl⟩:=hR';have uA:=jq qQ;clear qQ;have h0:wr.cell? ⟨b,o+k * 6,none⟩=some (.string sz):=hce 0 _ rfl;have h1:wr.cell? ⟨b,o+k * 6+1,none⟩=some (.int .i64 xs[k].key):=hce 1 _ rfl;have h2:wr.cell? ⟨b,o+k * 6+2,none⟩=some (.int .i64 xs[k].alg):=hce 2 _ rfl;have h3:wr.cell? ⟨b,o+k * 6+3,none⟩=some (.int .i64 xs[k].frm):=hce 3 _ rfl;have h4:wr.cell? ⟨b,o+k * 6+4,none⟩=some (.int .i64 xs[k].til):=hce 4 _ rfl;have h5:wr.cell? ⟨b,o+k * 6+5,none⟩=some (.int .u64 xs[k].sum):=hce 5 _ rfl;have bw:=λo=>HP.out (wr.alloc o) xs[k] _ (List.getElem_mem ag) (cX.alloc (by omega) _) (by simp;omega) (dG _ _ _ _ _ hR ((vQ _ wr).alloc (by omega) _));have HC:=jq bw;clear dS hce hR bw cX;go_wp2_with (fail);refine (HC.out _).mono ?_;rintro e w2 ⟨rfl,ae⟩;obtain⟨c2,f2⟩:=eh ae;have ga:=ae.size;simp only[World.size_alloc] at ga;have aq:Below (w.heap.size+1) (w.alloc (.cells #[.string ⟨#[]⟩,.int .i64 0,.int .i64 0,.int .i64 0,.int .i64 0,.int .u64 0] 56)) w2:=(ed.out.alloc aB _).trans (ae.mono (by simp;omega));by_cases bW:p xs[k]=true
   ·have HX:=jq bW;have d0:w2.cell? ⟨wr.heap.size,0,none⟩=some (.string sz):=by rw[c2 _ _ (by simp)];go_simp
    have d1:w2.cell? ⟨wr.heap.size,1,none⟩=some (.int .i64 xs[k].key):=by rw[c2 _ _ (by simp)];go_simp
    have d2:w2.cell? ⟨wr.heap.size,2,none⟩=some (.int .i64 xs[k].alg):=by rw[c2 _ _ (by simp)];go_simp
    have d3:w2.cell? ⟨wr.heap.size,3,none⟩=some (.int .i64 xs[k].frm):=by rw[c2 _ _ (by simp)];go_simp
    have d4:w2.cell? ⟨wr.heap.size,4,none⟩=some (.int .i64 xs[k].til):=by rw[c2 _ _ (by simp)];go_simp
    have d5:w2.cell? ⟨wr.heap.size,5,none⟩=some (.int .u64 xs[k].sum):=by rw[c2 _ _ (by simp)];go_simp
    obtain⟨c3,f3⟩:=eh (aq.mono (by simp));have aw:=jq aq;clear c2 f2 ae aq;go_wp2_with (fail);refine bodyPost_ret (v:=.tuple #[.agg #[.string sz,.int .i64 xs[k].key,.int .i64 xs[k].alg,.int .i64 xs[k].frm,.int .i64 xs[k].til,.int .u64 xs[k].sum],.bool true]) (by simp[results,results162,go_sem,c3]) rfl ⟨sz,xs[k].key,xs[k].alg,xs[k].frm,xs[k].til,xs[k].sum,?_,?_,λx hx=>?_,λhx=>?_⟩
    ·rw[show xs.any p=true from List.any_eq_true.2 ⟨_,List.getElem_mem ag,HX.out⟩]
    ·have aT:Below w.heap.size w w2:=((vQ _ w).alloc (bQ _) _).trans (aw.out.abQ)
     repeat refine Below.setCell ?_ (by simp) _
     exact aT
    ·have:=Fk p xs k ag HA.out HX.out
     rw[this] at hx
     cases hx
     exact sT.out
    ·rw[show xs.any p=true from List.any_eq_true.2 ⟨_,List.getElem_mem ag,HX.out⟩] at hx;cases hx
   ·have rZ:p xs[k]=false:=by simpa using bW
    have HX:=jq rZ;have aw:=jq aq;clear bW c2 f2 ae aq;go_wp2_with (fail);go_roundw
    case rel=>
     refine⟨k+1,by omega,by go_num,aw.out,jq ?_⟩;rw[fQ ag];intro x hx;rcases List.mem_append.1 hx with h | h
     ·exact HA.out x h
     ·simp at h;subst h;exact HX.out
    case measure=>simp[intOf]<;>omega
  ·obtain⟨c3,f3⟩:=eh (ed.out.mono (by simp));have dL:∀ x∈xs,p x=false:=by have:=HA.out;rwa [kQ (by omega)] at this
   have HN:=jq dL;have l0:w.heap.size<wr.heap.size:=by omega
   clear dL;go_wp2_with fail;refine bodyPost_ret (v:=.tuple #[.agg #[.string ⟨#[]⟩,.int .i64 0,.int .i64 0,.int .i64 0,.int .i64 0,.int .u64 0],.bool false]) (by simp[results,results162,go_sem,c3,l0]) rfl ⟨⟨#[]⟩,0,0,0,0,0,?_,?_,λx hx=>?_,λ_=>rfl⟩
   ·rw[show xs.any p=false from List.any_eq_false.2 (λx hx=>by simp[HN.out x hx])]
   ·refine Below.alloc ?_ (by simp;omega) _
    repeat refine Below.setCell ?_ (by simp) _
    exact bN.out
   ·have:=List.find?_some hx
    rw[HN.out x (List.mem_of_find?_eq_some hx)] at this
    cases this
def aeX(B:Nat)(w:World)(f:FuncId)(cap:Array Value)(p:Np.Key->Bool)(xs:List Np.Key):Prop:=
 ∀ (W:World) (x:Np.Key) (e:List Value),x∈xs->Below B w W->B<=W.heap.size->kK W B e x->Calls prog f (#[.agg e.toArray]++cap) W λe w'=>e = .returned (.bool (p x))/\Below W.heap.size W w'
def VO(B:Nat)(w:World)(p:Np.Key->Bool)(xs:List Np.Key)(e:Ending)(w':World):Prop:=
 ∃ (a b:Int),e = .returned (.tuple #[.agg #[.int .i64 a,.int .i64 b],.bool (xs.any p)])/\Below w.heap.size w w'/\(∀ x,xs.find? p=some x->kK w B [.int .i64 a,.int .i64 b] x)/\(xs.any p=false->([.int .i64 a,.int .i64 b]:List Value) = [.int .i64 0,.int .i64 0])
theorem QG(f:FuncId)(eg:∀ args w,(callFunc f args).run prog w = .ok (.enter f args) w)(cap:Array Value)(p:Np.Key->Bool)(v:Value)(xs:List Np.Key)(w:World)(B:Nat)(hB:B<=w.heap.size)(h:SlR kK 2 w B v xs)
 (hp:aeX B w f cap p xs) :
 Calls prog 164 #[v,.func (.func f) #[] cap] w (VO B w p xs):=by
 have H:=jq h;have HP:=jq hp;obtain⟨A,c,rfl,aR,cP,cZ⟩:=h;clear cZ hp;go_enter func164,ntmps164;go_wp2_with fail;go_loopw [11] (λi wr=>∃ k:Nat,k<=xs.length/\i = .int .i64 k/\Below (w.heap.size+1) (w.alloc (.cells #[.int .i64 0,.int .i64 0] 53)) wr/\Hid (∀ x∈xs.take k,p x=false)) (λi _=>xs.length - (intOf i).toNat)
 case atStart=>exact⟨0,jQ _,rfl,vQ _ _,jq (by simp)⟩
 case round=>
  obtain⟨k,hk,rfl,hb,HA⟩:=hrel;have aT:Below w.heap.size w wr:=((vQ _ w).alloc (bQ _) _).trans (hb.abQ);have aB:=hb.size;simp only[World.size_alloc] at aB;have ed:=jq hb;have bN:=jq aT;clear hb aT;by_cases ag:k<xs.length
  ·have cX:=bN.out.mono hB;obtain⟨A',c',hA',_,_,dS⟩:=H.out.keep re cX
   cases hA'
   obtain⟨b,o,e,rfl,cO,hlen,hce,hR⟩:=dS k _ (aQ ag);obtain⟨_,_,rJ,_,_,uS⟩:=H.out
   cases rJ
   obtain⟨b0,o0,e',cL,RL,CW,uR,rM⟩:=uS k _ (aQ ag)
   cases cL
   have tA:e'=e:=by
    refine List.ext_getElem? λj=>?_;rcases Nat.lt_or_ge j 2 with hj | hj
    ·have h1:=hce j _ (aQ (by omega));have h2:=uR j _ (aQ (by omega));rw[cX.cell (by exact cO),h2] at h1;rw[aQ (by omega),aQ (by omega)];exact h1
    ·rw[List.getElem?_eq_none (by omega),List.getElem?_eq_none (by omega)]
   subst tA;have sT:=jq rM;clear uS uR rM CW;have hR':=hR;obtain rfl:=hR';have h0:wr.cell? ⟨b,o+k * 2,none⟩=some (.int .i64 xs[k].n):=hce 0 _ rfl;have h1:wr.cell? ⟨b,o+k * 2+1,none⟩=some (.int .i64 xs[k].alg):=hce 1 _ rfl;have bw:=λo=>HP.out (wr.alloc o) xs[k] _ (List.getElem_mem ag) (cX.alloc (by omega) _) (by simp;omega) (re _ _ _ _ _ hR ((vQ _ wr).alloc (by omega) _));have HC:=jq bw;clear dS hce hR bw cX;go_wp2_with (fail);refine (HC.out _).mono ?_;rintro e w2 ⟨rfl,ae⟩;obtain⟨c2,f2⟩:=eh ae;have ga:=ae.size;simp only[World.size_alloc] at ga;have aq:Below (w.heap.size+1) (w.alloc (.cells #[.int .i64 0,.int .i64 0] 53)) w2:=(ed.out.alloc aB _).trans (ae.mono (by simp;omega));by_cases bW:p xs[k]=true
   ·have HX:=jq bW;have d0:w2.cell? ⟨wr.heap.size,0,none⟩=some (.int .i64 xs[k].n):=by rw[c2 _ _ (by simp)];go_simp
    have d1:w2.cell? ⟨wr.heap.size,1,none⟩=some (.int .i64 xs[k].alg):=by rw[c2 _ _ (by simp)];go_simp
    obtain⟨c3,f3⟩:=eh (aq.mono (by simp));have aw:=jq aq;clear c2 f2 ae aq;go_wp2_with (fail);refine bodyPost_ret (v:=.tuple #[.agg #[.int .i64 xs[k].n,.int .i64 xs[k].alg],.bool true]) (by simp[results,results164,go_sem,c3]) rfl ⟨xs[k].n,xs[k].alg,?_,?_,λx hx=>?_,λhx=>?_⟩
    ·rw[show xs.any p=true from List.any_eq_true.2 ⟨_,List.getElem_mem ag,HX.out⟩]
    ·have aT:Below w.heap.size w w2:=((vQ _ w).alloc (bQ _) _).trans (aw.out.abQ)
     repeat refine Below.setCell ?_ (by simp) _
     exact aT
    ·have:=Fk p xs k ag HA.out HX.out
     rw[this] at hx
     cases hx
     exact sT.out
    ·rw[show xs.any p=true from List.any_eq_true.2 ⟨_,List.getElem_mem ag,HX.out⟩] at hx;cases hx
   ·have rZ:p xs[k]=false:=by simpa using bW
    have HX:=jq rZ;have aw:=jq aq;clear bW c2 f2 ae aq;go_wp2_with (fail);go_roundw
    case rel=>
     refine⟨k+1,by omega,by go_num,aw.out,jq ?_⟩;rw[fQ ag];intro x hx;rcases List.mem_append.1 hx with h | h
     ·exact HA.out x h
     ·simp at h;subst h;exact HX.out
    case measure=>simp[intOf]<;>omega
  ·obtain⟨c3,f3⟩:=eh (ed.out.mono (by simp));have dL:∀ x∈xs,p x=false:=by have:=HA.out;rwa [kQ (by omega)] at this
   have HN:=jq dL;have l0:w.heap.size<wr.heap.size:=by omega
   clear dL;go_wp2_with fail;refine bodyPost_ret (v:=.tuple #[.agg #[.int .i64 0,.int .i64 0],.bool false]) (by simp[results,results164,go_sem,c3,l0]) rfl ⟨0,0,?_,?_,λx hx=>?_,λ_=>rfl⟩
   ·rw[show xs.any p=false from List.any_eq_false.2 (λx hx=>by simp[HN.out x hx])]
   ·refine Below.alloc ?_ (by simp;omega) _
    repeat refine Below.setCell ?_ (by simp) _
    exact bN.out
   ·have:=List.find?_some hx
    rw[HN.out x (List.mem_of_find?_eq_some hx)] at this
    cases this
end
section
open Go.RowKit Go.Shelf
def Np.B4(s:Np.DSet)(g:Np.Sig)(k:Np.Key):Bool:=Np.E8 s ⟨s.name.toArray⟩ ⟨g.zone.toArray⟩ g.key g.alg g.frm g.til g.sum k.n k.alg
def Np.vI(s:Np.DSet)(zone:List UInt8)(keys:List Np.Key)(t d:Int)(g:Np.Sig):Bool:=decide (g.zone=zone)&&(decide (g.frm<=t - d)&&(decide (t+d<=g.til)&&keys.any (Np.B4 s g)))
def Np.gw(s:Np.Signed)(zone:List UInt8)(keys:List Np.Key)(t d:Int):Bool:=Np.mo t d&&s.sigs.any (Np.vI s.set zone keys t d)
theorem Jz(s:ByteArray):(⟨s.data.toList.toArray⟩:ByteArray)=s:=by cases s;simp
theorem alY{s:ByteArray}{l:List UInt8}(h:s.data.toList=l):(⟨l.toArray⟩:ByteArray)=s:=by subst h;exact Jz s
theorem bzX(bs bg:Nat)(s:ByteArray)(hs:s.size<=140737488355328)(ty life:Int)(v:Value)(ds:List Np.Datum)(g:Np.Sig)(z:ByteArray)(lp:z.data.toList=g.zone)(hz:z.size<=140737488355328)(k:Np.Key)(w:World)(hR:cr w w.heap.size)(hd:SlR cm 3 w w.heap.size v ds)
 (hcs:fm w bs 0 [.string s,.int .i64 ty,.int .i64 life,v]) (xx:fm w bg 0 [.string z,.int .i64 g.key,.int .i64 g.alg,.int .i64 g.frm,.int .i64 g.til,.int .u64 g.sum]) :
 Calls prog 165 #[.agg #[.int .i64 k.n,.int .i64 k.alg],.pointer (some ⟨bs,0,none⟩),.pointer (some ⟨bg,0,none⟩)] w
  λe w'=>e = .returned (.bool (Np.B4 ⟨s.data.toList,ty,life,ds⟩ g k))/\Below w.heap.size w w':=by
 have HR:=jq hR;have HD:=jq hd;have HZ:=jq lp;have s0:w.cell? ⟨bs,0,none⟩=some (.string s):=by have:=hcs 0 _ rfl;simpa using this
 have s1:w.cell? ⟨bs,1,none⟩=some (.int .i64 ty):=by have:=hcs 1 _ rfl;simpa using this
 have s2:w.cell? ⟨bs,2,none⟩=some (.int .i64 life):=by have:=hcs 2 _ rfl;simpa using this
 have s3:w.cell? ⟨bs,3,none⟩=some v:=by have:=hcs 3 _ rfl;simpa using this
 have g0:w.cell? ⟨bg,0,none⟩=some (.string z):=by have:=xx 0 _ rfl;simpa using this
 have g1:w.cell? ⟨bg,1,none⟩=some (.int .i64 g.key):=by have:=xx 1 _ rfl;simpa using this
 have g2:w.cell? ⟨bg,2,none⟩=some (.int .i64 g.alg):=by have:=xx 2 _ rfl;simpa using this
 have g3:w.cell? ⟨bg,3,none⟩=some (.int .i64 g.frm):=by have:=xx 3 _ rfl;simpa using this
 have g4:w.cell? ⟨bg,4,none⟩=some (.int .i64 g.til):=by have:=xx 4 _ rfl;simpa using this
 have g5:w.cell? ⟨bg,5,none⟩=some (.int .u64 g.sum):=by have:=xx 5 _ rfl;simpa using this
 have lb:=World.block_lt_of_cell? w _ s0;have lg:=World.block_lt_of_cell? w _ g0;simp only at lb lg;obtain⟨A,c,rfl,aR,cP,cZ⟩:=hd;clear hR cZ hcs xx lp;go_enter func165,ntmps165;go_wp2_with fail;refine (anZ s hs ty life _ ds z hz g.key g.alg g.frm g.til g.sum k.n k.alg _ ?_ ?_).mono ?_
 ·exact (HR.out.keep (jY w _)).more (by simp)
 ·exact (HD.out.keep bM (jY w _)).more bY (by simp)
 rintro e w1 ⟨rfl,hb⟩;have HB:=jq hb;clear hb;go_wp2_with fail;go_ret;exact⟨aj (by unfold Np.B4;rw[Jz,alY HZ.out]),(jY w _).trans (HB.out.mono (by simp))⟩
theorem bzY(bz bt bd bk bs:Nat)(zone:ByteArray)(t d:Int)(ht:0<=t)(zT:t<=10000000)(FQ:0<=d)(iN:d<=1000)(kv:Value)(keys:List Np.Key)(s:ByteArray)(hs:s.size<=140737488355328)(ty life:Int)(v:Value)(ds:List Np.Datum)(g:Np.Sig)(z:ByteArray)(lp:z.data.toList=g.zone)(hz:z.size<=140737488355328)(w:World)(hR:cr w w.heap.size)(hd:SlR cm 3 w w.heap.size v ds)(hk:SlR kK 2 w w.heap.size kv keys)
 (hcs:fm w bs 0 [.string s,.int .i64 ty,.int .i64 life,v]) (cz:w.cell? ⟨bz,0,none⟩=some (.string zone)) (ct:w.cell? ⟨bt,0,none⟩=some (.int .i64 t)) (cd:w.cell? ⟨bd,0,none⟩=some (.int .i64 d)) (ck:w.cell? ⟨bk,0,none⟩=some kv) :
 Calls prog 163 #[.agg #[.string z,.int .i64 g.key,.int .i64 g.alg,.int .i64 g.frm,.int .i64 g.til,.int .u64 g.sum],.pointer (some ⟨bz,0,none⟩),.pointer (some ⟨bt,0,none⟩),.pointer (some ⟨bd,0,none⟩),.pointer (some ⟨bk,0,none⟩),.pointer (some ⟨bs,0,none⟩)] w
  λe w'=>e = .returned (.bool (Np.vI ⟨s.data.toList,ty,life,ds⟩ zone.data.toList keys t d g))/\Below w.heap.size w w':=by
 have HR:=jq hR;have HD:=jq hd;have HK:=jq hk;have HZ:=jq lp;have HS:=jq hcs;have lz:=World.block_lt_of_cell? w _ cz;have lt:=World.block_lt_of_cell? w _ ct;have ld:=World.block_lt_of_cell? w _ cd;have lk:=World.block_lt_of_cell? w _ ck;have ls:=World.block_lt_of_cell? w _ (hcs 0 _ rfl);simp only at lz lt ld lk ls;obtain⟨A,c,rfl,aR,cP,cZ⟩:=hd;obtain⟨A2,c2,rfl,cH,ei,gG⟩:=hk;clear hR cZ gG hcs lp;go_enter func163,ntmps163;go_wp2_with fail
 ·go_ret;rename_i h1;refine⟨aj ?_,jY w _⟩;rw[dQ,dQ,HZ.out] at h1;simp[Np.vI,h1]
 ·go_ret;rename_i h1 h2;refine⟨aj ?_,jY w _⟩;have h3:¬ g.frm<=t - d:=by omega
  simp[Np.vI,h3]
 ·go_ret;rename_i h1 h2 h3;refine⟨aj ?_,jY w _⟩;have h3:¬ t+d<=g.til:=by omega
  simp[Np.vI,h3]
 ·have h1:z.toList=zone.toList:=by assumption
  have h2:t+d<=g.til:=by assumption
  have h3:g.frm<=t - d:=by assumption
  have uU:Np.vI ⟨s.data.toList,ty,life,ds⟩ zone.data.toList keys t d g=keys.any (Np.B4 ⟨s.data.toList,ty,life,ds⟩ g):=by
   rw[dQ,dQ,HZ.out] at h1;simp[Np.vI,h1,h2,h3]
  have HF:=jq uU;clear uU;refine (QG 165 (enters_of func165 (by kernel_rfl) rfl) _ (Np.B4 ⟨s.data.toList,ty,life,ds⟩ g) _ keys _ _ (bQ _) ?_ ?_).mono ?_
  ·exact (HK.out.keep re (jY w _)).more At (by simp)
  ·intro W x e hx hW pf qu;obtain rfl:=qu;have pn:Below w.heap.size w W:=(jY w _).trans (hW.mono (by simp));refine bzX bs w.heap.size s hs ty life (.slice A ds.length c) ds g z HZ.out hz x W ?_ ?_ ?_ ?_
   ·exact (HR.out.keep pn).more pn.size
   ·exact (HD.out.keep bM pn).more bY pn.size
   ·exact HS.out.keep pn ls
   ·intro j u hj;rw[hW.cell (by simp)]
    match j,hj with
    | 0,hj=>simp at hj;subst hj;go_simp
    | 1,hj=>simp at hj;subst hj;go_simp
    | 2,hj=>simp at hj;subst hj;go_simp
    | 3,hj=>simp at hj;subst hj;go_simp
    | 4,hj=>simp at hj;subst hj;go_simp
    | 5,hj=>simp at hj;subst hj;go_simp
    | j+6,hj=>simp at hj
  ·rintro e w1 ⟨a,b,rfl,hb,_,_⟩;have HB:=jq hb;clear hb;go_wp2_with fail;go_ret;exact⟨aj HF.out.symm,((jY w _).trans (HB.out.mono (by simp))).alloc (by have:=HB.out.size;simp at this;omega) _⟩
theorem Mb(zone:ByteArray)(t d:Int)(kv:Value)(keys:List Np.Key)(s:ByteArray)(hs:s.size<=140737488355328)(ty life:Int)(v u:Value)(ds:List Np.Datum)(gs:List Np.Sig)(w:World)(hR:cr w w.heap.size)(hd:SlR cm 3 w w.heap.size v ds)(hg:SlR en 6 w w.heap.size u gs)(hk:SlR kK 2 w w.heap.size kv keys) :
 Calls prog 96 #[.agg #[.string s,.int .i64 ty,.int .i64 life,v,u],.string zone,kv,.int .i64 t,.int .i64 d] w
  λe w'=>e = .returned (.bool (Np.gw ⟨⟨s.data.toList,ty,life,ds⟩,gs⟩ zone.data.toList keys t d))/\Below w.heap.size w w':=by
 have HR:=jq hR;have HD:=jq hd;have HG:=jq hg;have HK:=jq hk;obtain⟨A,c,rfl,aR,cP,cZ⟩:=hd;obtain⟨A2,c2,rfl,cH,ei,gG⟩:=hk;obtain⟨A3,c3,rfl,nB,kh,he3⟩:=hg;clear hR cZ gG he3;have aO:∀ o1 o2 o3 o4 o5:Obj,Below w.heap.size w (((((w.alloc o1).alloc o2).alloc o3).alloc o4).alloc o5):=λo1 o2 o3 o4 o5=>(((((vQ _ w).alloc (bQ _) _).alloc (by simp) _).alloc (by simp;omega) _).alloc (by simp;omega) _).alloc (by simp;omega) _;have bx:=jq aO;clear aO;by_cases hv:Np.mo t d=true
 ·have HV:=jq hv;have Gi:0<=t/\t<=10000000/\0<=d/\d<=1000:=by simp[Np.mo] at hv;omega
  clear hv;go_enter func96,ntmps96;go_wp2_with fail;refine (Ms t d _).mono ?_;rintro e w' ⟨rfl,rfl⟩;rw[HV.out];go_wp2_with fail;refine (ayY 163 (enters_of func163 (by kernel_rfl) rfl) _ (Np.vI ⟨s.data.toList,ty,life,ds⟩ zone.data.toList keys t d) _ gs _ _ (bQ _) ?_ ?_).mono ?_
  ·exact (HG.out.keep dG (bx.out _ _ _ _ _)).more el (by simp;omega)
  ·intro W x e hx hW pf qu;obtain⟨z,bG,bL,rfl⟩:=qu;have pn:Below w.heap.size w W:=(bx.out _ _ _ _ _).trans (hW.mono (by simp;omega));refine bzY (w.heap.size+1) (w.heap.size+1+1+1) (w.heap.size+1+1+1+1) (w.heap.size+1+1) w.heap.size zone t d Gi.1 Gi.2.1 Gi.2.2.1 Gi.2.2.2 (.slice A2 keys.length c2) keys s hs ty life (.slice A ds.length c) ds x z bG bL W ?_ ?_ ?_ ?_ ?_ ?_ ?_ ?_
   ·exact (HR.out.keep pn).more pn.size
   ·exact (HD.out.keep bM pn).more bY pn.size
   ·exact (HK.out.keep re pn).more At pn.size
   ·intro j u hj;rw[hW.cell (by simp<;>omega)]
    match j,hj with
    | 0,hj=>simp at hj;subst hj;go_simp
    | 1,hj=>simp at hj;subst hj;go_simp
    | 2,hj=>simp at hj;subst hj;go_simp
    | 3,hj=>simp at hj;subst hj;go_simp
    | j+4,hj=>simp at hj
   ·rw[hW.cell (by simp<;>omega)];go_simp
   ·rw[hW.cell (by simp<;>omega)];go_simp
   ·rw[hW.cell (by simp<;>omega)];go_simp
   ·rw[hW.cell (by simp<;>omega)];go_simp
  ·rintro e w1 ⟨s1,a1,b1,c1,d1,q1,rfl,hb,_,_⟩;have HB:=jq hb;clear hb;go_wp2_with fail;go_ret;exact⟨aj (by simp[Np.gw,HV.out]),((bx.out _ _ _ _ _).trans (HB.out.mono (by simp;omega))).alloc (by have:=HB.out.size;simp at this;omega) _⟩
 ·have HV:=jq (show Np.mo t d=false by simpa using hv);clear hv;go_enter func96,ntmps96;go_wp2_with fail;refine (Ms t d _).mono ?_;rintro e w' ⟨rfl,rfl⟩;rw[HV.out];go_wp2_with fail;go_ret;exact⟨aj (by simp[Np.gw,HV.out]),bx.out _ _ _ _ _⟩
end
section
open Go.RowKit
def afQ(B:Nat)(w:World)(f:FuncId)(cap:Array Value)(p:Np.Signed->Bool)(xs:List Np.Signed):Prop:=
 ∀ (W:World) (x:Np.Signed) (e:List Value),x∈xs->Below w.heap.size w W->w.heap.size<=W.heap.size->az W B e x->Calls prog f (#[.agg e.toArray]++cap) W λe w'=>e = .returned (.bool (p x))/\Below W.heap.size W w'
def VQ(B:Nat)(w:World)(p:Np.Signed->Bool)(xs:List Np.Signed)(e:Ending)(w':World):Prop:=
 ∃ (s:ByteArray) (a b:Int) (v u:Value),e = .returned (.tuple #[.agg #[.string s,.int .i64 a,.int .i64 b,v,u],.bool (xs.any p)])/\Below w.heap.size w w'/\(∀ x,xs.find? p=some x->az w B [.string s,.int .i64 a,.int .i64 b,v,u] x)/\(xs.any p=false->([.string s,.int .i64 a,.int .i64 b,v,u]:List Value) = [.string ⟨#[]⟩,.int .i64 0,.int .i64 0,.slice none 0 0,.slice none 0 0])
theorem QH(f:FuncId)(eg:∀ args w,(callFunc f args).run prog w = .ok (.enter f args) w)(cap:Array Value)(p:Np.Signed->Bool)(v:Value)(xs:List Np.Signed)(w:World)(B:Nat)(hB:B<=w.heap.size)(h:SlR az 5 w B v xs)
 (hp:afQ B w f cap p xs) :
 Calls prog 51 #[v,.func (.func f) #[] cap] w (VQ B w p xs):=by
 have H:=jq h;have HP:=jq hp;obtain⟨A,c,rfl,aR,cP,cZ⟩:=h;clear cZ hp;go_enter func51,ntmps51;go_wp2_with fail;go_loopw [11] (λi wr=>∃ k:Nat,k<=xs.length/\i = .int .i64 k/\Below (w.heap.size+1) (w.alloc (.cells #[.string ⟨#[]⟩,.int .i64 0,.int .i64 0,.slice none 0 0,.slice none 0 0] 44)) wr/\Hid (∀ x∈xs.take k,p x=false)) (λi _=>xs.length - (intOf i).toNat)
 case atStart=>exact⟨0,jQ _,rfl,vQ _ _,jq (by simp)⟩
 case round=>
  obtain⟨k,hk,rfl,hb,HA⟩:=hrel;have aT:Below w.heap.size w wr:=((vQ _ w).alloc (bQ _) _).trans (hb.abQ);have aB:=hb.size;simp only[World.size_alloc] at aB;have ed:=jq hb;have bN:=jq aT;clear hb aT;by_cases ag:k<xs.length
  ·have cX:=bN.out.mono hB;obtain⟨A',c',hA',_,_,dS⟩:=H.out.keep ax cX
   cases hA'
   obtain⟨b,o,e,rfl,cO,hlen,hce,hR⟩:=dS k _ (aQ ag);obtain⟨_,_,rJ,_,_,uS⟩:=H.out
   cases rJ
   obtain⟨b0,o0,e',cL,RL,CW,uR,rM⟩:=uS k _ (aQ ag)
   cases cL
   have tA:e'=e:=by
    refine List.ext_getElem? λj=>?_;rcases Nat.lt_or_ge j 5 with hj | hj
    ·have h1:=hce j _ (aQ (by omega));have h2:=uR j _ (aQ (by omega));rw[cX.cell (by exact cO),h2] at h1;rw[aQ (by omega),aQ (by omega)];exact h1
    ·rw[List.getElem?_eq_none (by omega),List.getElem?_eq_none (by omega)]
   subst tA;have sT:=jq rM;clear uS uR rM CW;have hR':=hR;obtain⟨sz,vd,vs,qQ,oE,qP,dM,rfl⟩:=hR';obtain⟨dA,dn,dc,rfl,_,_,_⟩:=cE qP;obtain⟨gA,gn,gc,rfl,_,_,_⟩:=cE dM;have uA:=jq qQ;clear qQ qP dM;have h0:wr.cell? ⟨b,o+k * 5,none⟩=some (.string sz):=hce 0 _ rfl;have h1:wr.cell? ⟨b,o+k * 5+1,none⟩=some (.int .i64 xs[k].set.type):=hce 1 _ rfl;have h2:wr.cell? ⟨b,o+k * 5+2,none⟩=some (.int .i64 xs[k].set.life):=hce 2 _ rfl;have h3:wr.cell? ⟨b,o+k * 5+3,none⟩=some (.slice dA dn dc):=hce 3 _ rfl;have h4:wr.cell? ⟨b,o+k * 5+4,none⟩=some (.slice gA gn gc):=hce 4 _ rfl;have bw:=λo=>HP.out (wr.alloc o) xs[k] _ (List.getElem_mem ag) (bN.out.alloc (by omega) _) (by simp;omega) (ax _ _ _ _ _ hR ((vQ _ wr).alloc (by omega) _));have HC:=jq bw;clear dS hce hR bw cX;go_wp2_with (fail);refine (HC.out _).mono ?_;rintro e w2 ⟨rfl,ae⟩;obtain⟨c2,f2⟩:=eh ae;have ga:=ae.size;simp only[World.size_alloc] at ga;have aq:Below (w.heap.size+1) (w.alloc (.cells #[.string ⟨#[]⟩,.int .i64 0,.int .i64 0,.slice none 0 0,.slice none 0 0] 44)) w2:=(ed.out.alloc aB _).trans (ae.mono (by simp;omega));by_cases bW:p xs[k]=true
   ·have HX:=jq bW;have d0:w2.cell? ⟨wr.heap.size,0,none⟩=some (.string sz):=by rw[c2 _ _ (by simp)];go_simp
    have d1:w2.cell? ⟨wr.heap.size,1,none⟩=some (.int .i64 xs[k].set.type):=by rw[c2 _ _ (by simp)];go_simp
    have d2:w2.cell? ⟨wr.heap.size,2,none⟩=some (.int .i64 xs[k].set.life):=by rw[c2 _ _ (by simp)];go_simp
    have d3:w2.cell? ⟨wr.heap.size,3,none⟩=some (.slice dA dn dc):=by rw[c2 _ _ (by simp)];go_simp
    have d4:w2.cell? ⟨wr.heap.size,4,none⟩=some (.slice gA gn gc):=by rw[c2 _ _ (by simp)];go_simp
    obtain⟨c3,f3⟩:=eh (aq.mono (by simp));have aw:=jq aq;clear c2 f2 ae aq;go_wp2_with (fail);refine bodyPost_ret (v:=.tuple #[.agg #[.string sz,.int .i64 xs[k].set.type,.int .i64 xs[k].set.life,.slice dA dn dc,.slice gA gn gc],.bool true]) (by simp[results,results51,go_sem,c3]) rfl ⟨sz,xs[k].set.type,xs[k].set.life,.slice dA dn dc,.slice gA gn gc,?_,?_,λx hx=>?_,λhx=>?_⟩
    ·rw[show xs.any p=true from List.any_eq_true.2 ⟨_,List.getElem_mem ag,HX.out⟩]
    ·have aT:Below w.heap.size w w2:=((vQ _ w).alloc (bQ _) _).trans (aw.out.abQ)
     repeat refine Below.setCell ?_ (by simp) _
     exact aT
    ·have:=Fk p xs k ag HA.out HX.out
     rw[this] at hx
     cases hx
     exact sT.out
    ·rw[show xs.any p=true from List.any_eq_true.2 ⟨_,List.getElem_mem ag,HX.out⟩] at hx;cases hx
   ·have rZ:p xs[k]=false:=by simpa using bW
    have HX:=jq rZ;have aw:=jq aq;clear bW c2 f2 ae aq;go_wp2_with (fail);go_roundw
    case rel=>
     refine⟨k+1,by omega,by go_num,aw.out,jq ?_⟩;rw[fQ ag];intro x hx;rcases List.mem_append.1 hx with h | h
     ·exact HA.out x h
     ·simp at h;subst h;exact HX.out
    case measure=>simp[intOf]<;>omega
  ·obtain⟨c3,f3⟩:=eh (ed.out.mono (by simp));have dL:∀ x∈xs,p x=false:=by have:=HA.out;rwa [kQ (by omega)] at this
   have HN:=jq dL;have l0:w.heap.size<wr.heap.size:=by omega
   clear dL;go_wp2_with fail;refine bodyPost_ret (v:=.tuple #[.agg #[.string ⟨#[]⟩,.int .i64 0,.int .i64 0,.slice none 0 0,.slice none 0 0],.bool false]) (by simp[results,results51,go_sem,c3,l0]) rfl ⟨⟨#[]⟩,0,0,.slice none 0 0,.slice none 0 0,?_,?_,λx hx=>?_,λ_=>rfl⟩
   ·rw[show xs.any p=false from List.any_eq_false.2 (λx hx=>by simp[HN.out x hx])]
   ·refine Below.alloc ?_ (by simp;omega) _
    repeat refine Below.setCell ?_ (by simp) _
    exact bN.out
   ·have:=List.find?_some hx
    rw[HN.out x (List.mem_of_find?_eq_some hx)] at this
    cases this

end
end Go.Proofs.YtadhigmjilijcaaGreatDoor
