/- No condition. -/
import Derived.Deep.RegionHeld3
import Derived.Test.YtadhigmjilijcaaGreatDoorA02
import Derived.Test.YtadhigmjilijcaaGreatDoorA03
import Derived.Test.YtadhigmjilijcaaGreatDoorA04
import Derived.Test.YtadhigmjilijcaaGreatDoorA05
set_option linter.all false
set_option maxRecDepth 100000
set_option maxHeartbeats 8000000
namespace Go.Proofs.YtadhigmjilijcaaGreatDoor
open Go.Proofs.Tryz
section
open Go.RowKit
namespace Np
theorem km{l:List UInt8}(h:ao l=true):l.length<=60:=by
 unfold ao at h;split at h
 ·rename_i h1;subst h1;simp
 ·split at h
  ·cases h
  ·omega
def AH(r:Rule):Bool:=decide (0<=r.leastN)&&decide (0<=r.leastM)&&decide (r.mostN<=1000000)&&decide (r.mostM<=1000000)
theorem awZ(k:Int):AH (dF k)=true:=by
 have h:∀ i:Nat,AH (DR.getD i ⟨0,0,0,0,0,false,false,false⟩)=true:=by
  intro i;by_cases hi:i<9
  ·rcases (by omega:i=0\/i=1\/i=2\/i=3\/i=4\/i=5\/i=6\/i=7\/i=8) with rfl | rfl | rfl | rfl | rfl | rfl | rfl | rfl | rfl<;>rfl
  ·rw[List.getD_eq_getElem?_getD,List.getElem?_eq_none (by simp[DR];omega)];rfl
 exact h _
structure DatumOk(d:Datum):Prop where
 text:d.text.length<=60
 n0:0<=d.n
 n1:d.n<=1000000
 m0:0<=d.m
 m1:d.m<=1000000
theorem aHK{r:Rule}{d:Datum}(hr:AH r=true)(h:lE r d=true):DatumOk d:=by
 simp[AH] at hr;simp only[lE,Bool.and_eq_true,Qa] at h;exact⟨aHX h.2,by omega,by omega,by omega,by omega⟩
theorem MM{r:Rule}(hr:AH r=true):∀ {ds:List Datum} {p:Option Datum},iW r p ds=true->∀ d∈ds,DatumOk d
 | [],_,_=>by simp
 | d::ds,p,h=>by
   simp only[iW,Bool.and_eq_true] at h;intro x hx;rcases List.mem_cons.1 hx with rfl | hx
   ·exact aHK hr h.1.1
   ·exact MM hr h.2 x hx
structure SetOk(s:DSet):Prop where
 name:s.name.length<=60
 ty0:1<=s.type
 ty1:s.type<=8
 li0:0<=s.life
 li1:s.life<=100000
 len:s.data.length<=8
 data:∀ d∈s.data,DatumOk d
theorem QF{s:DSet}(h:bo s=true):SetOk s:=by
 simp only[bo,Bool.and_eq_true,Qa] at h;obtain⟨⟨⟨⟨⟨⟨h1,h2⟩,h3⟩,h4⟩,_⟩,_⟩,h7⟩:=h;exact⟨km h1,h2.1,h2.2,h3.1,h3.2,h4.2,MM (awZ _) h7⟩
def text(l:List UInt8):List UInt8:=UInt8.ofNat l.length::l
def num(n:Int):List UInt8:=(List.range 8).map λi=>UInt8.ofNat (n.toNat / 2 ^ (56 - 8 * i))
def uf(d:Datum):List UInt8:=text d.text++num d.n++num d.m
def GD(s:DSet):List UInt8:=text s.name++num s.type++num s.life ++ [UInt8.ofNat s.data.length]
def xF(s:DSet):List UInt8:=GD s++s.data.flatMap uf
theorem xC(n:Int):(num n).length=8:=by simp[num]
theorem WF{d:Datum}(h:DatumOk d):(uf d).length<=80:=by
 have:=h.text
 simp[uf,text,xC];omega
theorem FE:∀ {ds:List Datum},(∀ d∈ds,DatumOk d)->(ds.flatMap uf).length<=80 * ds.length
 | [],_=>by simp
 | d::ds,h=>by
   have h1:=WF (h d (by simp));have h2:=FE (ds:=ds) (λx hx=>h x (by simp[hx]));simp only[List.flatMap_cons,List.length_append,List.length_cons];omega
end Np
theorem LW(base:Nat)(v:Value)(bs:List UInt8)(s:ByteArray)(hl:bs.length<=1000000)(hs:s.data.toList.length<=60)(w:World)(hb:base<=w.heap.size)(h:gC w base v bs) :
 Calls prog 127 #[v,.string s] w (rJ base v (bs++Np.text s.data.toList) w):=by
 have:=V0 base v bs s hl (by simp at hs;omega) w hb h
 simpa [Np.text] using this
theorem Cb(base:Nat)(v:Value)(bs:List UInt8)(n:Int)(hl:bs.length<=1000000)(h0:0<=n)(h1:n<=1000000)(w:World)(hb:base<=w.heap.size)(h:gC w base v bs) :
 Calls prog 128 #[v,.int .i64 n] w (rJ base v (bs++Np.num n) w):=by
 obtain⟨m,rfl⟩:=Int.eq_ofNat_of_zero_le h0;exact VZ base v bs m hl (by omega) w hb h
theorem gC.bytes{w:World}{base:Nat}{v:Value}{bs:List UInt8}(h:gC w base v bs)(hl:bs.length<=1000000):pi w w.heap.size v (bs.map λc=>(c.toNat:Int)):=by
 rcases h.2 with ⟨rfl,h0⟩ | ⟨g,cap,cur,rfl,hb,hg,oF,_,_,OX⟩
 ·have:bs = []:=rQ h0
  subst this;exact⟨none,0,rfl,by simp,by simp,λi x hx=>by simp at hx⟩
 ·refine⟨some ⟨g,0,none⟩,cap,by simp,by simp;omega,by simpa using oF,λi x hx=>⟨g,0,rfl,?_,(eQ.1 hg).1,?_⟩⟩
  ·have:=(eQ.1 hg).1;omega
  ·have:=h.cells (g:=g) rfl i (.int .u8 x) (by simp at hx |-;exact hx)
   by_cases hi:i=0
   ·subst hi;simpa [Addr.add] using this
   ·simpa [Addr.add,hi] using this
theorem iU(w:World)(o:Obj):Below w.heap.size w (w.alloc o):=(vQ _ w).alloc (bQ _) _
theorem aoK(w:World)(base:Nat):gC w base (.slice none 0 0) []:=⟨rfl,.inl ⟨rfl,rfl⟩⟩
theorem gC.weaken{w:World}{base b:Nat}{v:Value}{bs:List UInt8}(h:gC w base v bs)(hb:b<=base):gC w b v bs:=by
 refine⟨h.1,?_⟩;rcases h.2 with h1 | ⟨g,cap,cur,h1,h2,h3⟩
 ·exact .inl h1
 ·exact .inr ⟨g,cap,cur,h1,yQ hb h2,h3⟩
theorem rJ.step{base:Nat}{v:Value}{bs bs':List UInt8}{w w':World}{e:Ending}(h:rJ base v bs' w e w')(ho:gC w base v bs)(hb:base<=w.heap.size):∃ A c b',e = .returned (.slice A (List.length b') c)/\Hid (b'=bs')/\gC w' base (.slice A (List.length b') c) b'/\Below base w w':=by
 obtain⟨v',rfl,h1,h2⟩:=h;obtain⟨A,c,rfl⟩:=rz h1;exact⟨A,c,bs',rfl,jq rfl,h1,h2.below ho (bQ _) hb⟩
theorem rJ.step2{base g:Nat}{v:Value}{bs bs':List UInt8}{w w':World}{e:Ending}(h:rJ base v bs' w e w')(ho:gC w base v bs)(hb:base<=w.heap.size)(hg:v.ownBlock≠some g)(kV:g<w.heap.size) :
 ∃ A c b',e = .returned (.slice A (List.length b') c)/\Hid (b'=bs')/\gC w' base (.slice A (List.length b') c) b'/\Below base w w'/\(Value.slice A (List.length b') c).ownBlock≠some g/\w'.heap[g]?=w.heap[g]?:=by
 obtain⟨v',rfl,h1,h2⟩:=h;obtain⟨A,c,rfl⟩:=rz h1;refine⟨A,c,bs',rfl,jq rfl,h1,h2.below ho (bQ _) hb,?_,h2.grown.block g kV (λe=>hg e.symm)⟩;rcases h2.at_ with e | ⟨k,hk,e⟩
 ·rw[e];exact hg
 ·rw[e];simp;omega
def Q0(w5:World)(base:Nat)(b5:List UInt8)(ds:List Np.Datum)(vb i:Value)(wr:World):Prop:=
 ∃ (k:Nat) (A:Option Addr) (c:Nat) (bk:List UInt8),k<=ds.length/\i = .int .i64 k/\vb = .slice A bk.length c/\Hid (bk=b5++(ds.take k).flatMap Np.uf)/\Hid (gC wr base vb bk)/\Hid (Below base w5 wr)
theorem PZ(s:ByteArray)(hs:s.size<=140737488355328)(ty life:Int)(v:Value)(ds:List Np.Datum)(w:World)(hR:bL w w.heap.size)(hd:SlR bS 3 w w.heap.size v ds)(hval:Np.bo ⟨s.data.toList,ty,life,ds⟩=true) :
 Calls prog 60 #[.agg #[.string s,.int .i64 ty,.int .i64 life,v]] w
  λe w'=>Below w.heap.size w w'/\∃ v',e = .returned (.tuple #[v',.int .i64 0])/\gC w' w.heap.size v' (Np.xF ⟨s.data.toList,ty,life,ds⟩):=by
 have HR:=jq hR;have HD:=jq hd;have OK:=jq (Np.QF hval);have HV:=jq hval;obtain⟨A,c,rfl,bi,fD,cp⟩:=hd;clear hR cp hval;obtain⟨i0,hi,cH,bx,cr⟩:=info_parts Tryz.infoByteSg;have YV:ds.length<=8:=OK.out.len;go_enter func60,ntmps60;go_wp2_with (first
  | (go_at_call 33;have hv:=HV.out;clear HV;refine (oX s hs ty life _ ds _ ((HR.out.keep (iU w _)).more (by simp)) ((HD.out.keep br (iU w _)).more bB (by simp))).mono ?_;rintro e w1 ⟨rfl,ay⟩;rw[hv];have bp:=ay.size;simp only[World.size_alloc] at bp ay;have c10:w1.cell? ⟨w.heap.size,0,none⟩=some (.string s):=by { rw[ay.cell (by simp)];go_simp };have c11:w1.cell? ⟨w.heap.size,1,none⟩=some (.int .i64 ty):=by { rw[ay.cell (by simp)];go_simp };have c12:w1.cell? ⟨w.heap.size,2,none⟩=some (.int .i64 life):=by { rw[ay.cell (by simp)];go_simp };have c13:w1.cell? ⟨w.heap.size,3,none⟩=some (.slice A ds.length c):=by { rw[ay.cell (by simp)];go_simp };have aH:=jq ay;have J7:=jq (aoK w1 (w.heap.size+1));clear ay hv)
  | (go_at_call 127;have ho:=J7.out;clear J7;refine (LW (w.heap.size+1) _ [] s (by simp) OK.out.name _ (by omega) ho).mono ?_;rintro e w2 ew;obtain⟨A2,p2,b2,rfl,jg,oG,ag⟩:=ew.step ho (by omega);have eN:=ag.size;have c20:w2.cell? ⟨w.heap.size,0,none⟩=some (.string s):=by { rw[ag.cell (by simp)];exact c10 };have c21:w2.cell? ⟨w.heap.size,1,none⟩=some (.int .i64 ty):=by { rw[ag.cell (by simp)];exact c11 };have c22:w2.cell? ⟨w.heap.size,2,none⟩=some (.int .i64 life):=by { rw[ag.cell (by simp)];exact c12 };have c23:w2.cell? ⟨w.heap.size,3,none⟩=some (.slice A ds.length c):=by { rw[ag.cell (by simp)];exact c13 };have ax:=jq ag;have yj:=jq oG;clear ew ag oG ho)
  | (go_at_call 128;have ho:=yj.out;clear yj;refine (Cb (w.heap.size+1) _ b2 ty (by rw[jg.out];have:=OK.out.name;simp[Np.text];simp at this;omega) (by have:=OK.out.ty0;simp at this;omega) (by have:=OK.out.ty1;simp at this;omega) _ (by omega) ho).mono ?_;rintro e w3 gp;obtain⟨A3,p3,b3,rfl,iM,kY,ai⟩:=gp.step ho (by omega);have bu:=ai.size;have c30:w3.cell? ⟨w.heap.size,0,none⟩=some (.string s):=by { rw[ai.cell (by simp)];exact c20 };have c31:w3.cell? ⟨w.heap.size,1,none⟩=some (.int .i64 ty):=by { rw[ai.cell (by simp)];exact c21 };have c32:w3.cell? ⟨w.heap.size,2,none⟩=some (.int .i64 life):=by { rw[ai.cell (by simp)];exact c22 };have c33:w3.cell? ⟨w.heap.size,3,none⟩=some (.slice A ds.length c):=by { rw[ai.cell (by simp)];exact c23 };have am:=jq ai;have pu:=jq kY;clear gp ai kY ho)
  | (go_at_call 128;have ho:=pu.out;clear pu;refine (Cb (w.heap.size+1) _ b3 life (by rw[iM.out,jg.out];have:=OK.out.name;simp[Np.text,Np.xC];simp at this;omega) (by have:=OK.out.li0;simpa using this) (by have:=OK.out.li1;simp at this;omega) _ (by omega) ho).mono ?_;rintro e w4 CW;obtain⟨A4,p4,b4,rfl,kz,ra,av⟩:=CW.step ho (by omega);have kf:=av.size;have c40:w4.cell? ⟨w.heap.size,0,none⟩=some (.string s):=by { rw[av.cell (by simp)];exact c30 };have c41:w4.cell? ⟨w.heap.size,1,none⟩=some (.int .i64 ty):=by { rw[av.cell (by simp)];exact c31 };have c42:w4.cell? ⟨w.heap.size,2,none⟩=some (.int .i64 life):=by { rw[av.cell (by simp)];exact c32 };have c43:w4.cell? ⟨w.heap.size,3,none⟩=some (.slice A ds.length c):=by { rw[av.cell (by simp)];exact c33 };have aF:=jq av;have nV:=jq ra;clear CW av ra ho)
  | (at_builtin;have ho:=nV.out;clear nV;have fU:b4.length<=100:=by { rw[kz.out,iM.out,jg.out];have:=OK.out.name;simp[Np.text,Np.xC];simp at this;omega };refine wpList_append_own_at _ rfl _ _ 108 rfl (w.heap.size+1) 5 i0 (.int .u8 0) 1 1 underlying108 hi cH bx cr rfl (by decide) _ _ _ rfl (World.ownsRow.alloc ho _) ⟨w4.heap.size,0,none⟩ 1 1 [_] rfl rfl (cell_one_new _ _ _) (by simp[Value.oneCell']) (by unfold maxLen;omega) (by omega) (by simp;omega) ?_;intro v5 w5 GT jZ Y8 NN;clear Y8;have aI:Below (w.heap.size+1) w4 w5:=((oh jZ NN).of_below (iU w4 _)).below ho (bQ _) (by omega);obtain⟨A5,p5,rfl⟩:=rz (qi (c:=UInt8.ofNat ds.length) (by simp;omega) GT);have gB:=jq (qi (c:=UInt8.ofNat ds.length) (by simp;omega) GT);have xj:=aI.size;have c53:w5.cell? ⟨w.heap.size,3,none⟩=some (.slice A ds.length c):=by { rw[aI.cell (by simp)];exact c43 };have aK:=jq aI;clear GT jZ NN ho aI))
 generalize aI:b4 ++ [UInt8.ofNat ds.length]=b5 at gB;have px:=jq aI;clear aI;have nX:Hid (Below w.heap.size w w5):=jq ((iU w _).trans ((((aH.out.trans ax.out).trans am.out).trans (aF.out.trans aK.out)).aSZ));go_loopw [4,32] (λvb i wr=>Q0 w5 (w.heap.size+1) b5 ds vb i wr) (λ_ i _=>ds.length - (intOf i).toNat)
 case atStart=>
  have e5:b4.length+1=b5.length:=by rw[<-px.out];simp
  rw[e5];exact⟨0,A5,p5,b5,jQ _,rfl,rfl,jq (by simp),gB,jq (vQ _ _)⟩
 case round=>
  obtain⟨k,Ak,ck,bk,hk,rfl,rfl,HQ,HO,HB⟩:=hrel;have OW:=HB.out.size;by_cases af:k<ds.length
  ·obtain⟨A',c',hA',_,_,dH⟩:=HD.out.keep br (nX.out.trans (HB.out.aSZ))
   cases hA'
   obtain⟨g,o,e,rfl,kV,hlen,hce,sd,s8,Dh,rfl⟩:=dH k _ (aQ af);have e0:wr.cell? ⟨g,o+k * 3,none⟩=some (.string sd):=hce 0 _ rfl;have e1:wr.cell? ⟨g,o+k * 3+1,none⟩=some (.int .i64 ds[k].n):=hce 1 _ rfl;have e2:wr.cell? ⟨g,o+k * 3+2,none⟩=some (.int .i64 ds[k].m):=hce 2 _ rfl;have DK:=jq (OK.out.data ds[k] (List.getElem_mem af));have cw:bk.length<=1000:=by
    rw[HQ.out,<-px.out,kz.out,iM.out,jg.out];have h1:=OK.out.name;have h2:=Np.FE (ds:=ds.take k) (λd hd=>OK.out.data d (List.mem_of_mem_take hd));simp at h1;simp only[List.length_append,Np.xC,Np.text,List.length_cons,List.length_nil,List.length_take] at h2 |-;simp only[Array.length_toList,ByteArray.size_data];omega
   have bX:(Value.slice Ak bk.length ck).ownBlock≠some wr.heap.size:=λe=>by have:=(PR HO.out _ e).2;omega
   have Zq:=jq bX;have vS:=jq s8;clear hce dH bX s8;go_wp2_with (first
    | (go_at_call 127;have ho:=HO.out;clear HO;refine (LW (w.heap.size+1) _ bk sd (by omega) (by rw[vS.out];exact DK.out.text) _ (by simp;omega) (World.ownsRow.alloc ho _)).mono ?_;rintro e w6 Oe;obtain⟨A6,p6,b6,rfl,vM,OF,bh,Zm,Oi⟩:=Oe.step2 (g:=wr.heap.size) (World.ownsRow.alloc ho _) (by simp;omega) Zq.out (by simp);have uU:=bh.size;simp only[World.size_alloc] at uU;have Ds:w6.heap[wr.heap.size]?=some (.cells #[.string sd,.int .i64 ds[k].n,.int .i64 ds[k].m] 75):=Oi.trans (World.alloc_heap_new _ _);have q61:w6.cell? ⟨wr.heap.size,1,none⟩=some (.int .i64 ds[k].n):=by { unfold World.cell?;rw[Ds];rfl };have q62:w6.cell? ⟨wr.heap.size,2,none⟩=some (.int .i64 ds[k].m):=by { unfold World.cell?;rw[Ds];rfl };have qI:=jq Ds;clear Ds Oi;have aU:=jq bh;have du:=jq OF;clear Oe bh OF ho)
    | (go_at_call 128;have ho:=du.out;clear du;refine (Cb (w.heap.size+1) _ b6 ds[k].n (by rw[vM.out];have:=DK.out.text;rw[<-vS.out] at this;simp[Np.text];simp at this;omega) DK.out.n0 DK.out.n1 _ (by omega) ho).mono ?_;rintro e w7 Of;obtain⟨A7,p7,b7,rfl,yo,zY,bm,GQ,Oj⟩:=Of.step2 (g:=wr.heap.size) ho (by omega) Zm (by omega);have Aj:=bm.size;have Dt:w7.heap[wr.heap.size]?=some (.cells #[.string sd,.int .i64 ds[k].n,.int .i64 ds[k].m] 75):=Oj.trans qI.out;have q71:w7.cell? ⟨wr.heap.size,1,none⟩=some (.int .i64 ds[k].n):=by { unfold World.cell?;rw[Dt];rfl };have q72:w7.cell? ⟨wr.heap.size,2,none⟩=some (.int .i64 ds[k].m):=by { unfold World.cell?;rw[Dt];rfl };have KH:=jq Dt;clear Dt Oj;have cL:=jq bm;have bC:=jq zY;clear Of bm zY ho)
    | (go_at_call 128;have ho:=bC.out;clear bC;refine (Cb (w.heap.size+1) _ b7 ds[k].m (by rw[yo.out,vM.out];have:=DK.out.text;rw[<-vS.out] at this;simp[Np.text,Np.xC];simp at this;omega) DK.out.m0 DK.out.m1 _ (by omega) ho).mono ?_;rintro e w8 j8;obtain⟨A8,p8,b8,rfl,Tp,mp,cu,hn8,hh8⟩:=j8.step2 (g:=wr.heap.size) ho (by omega) GQ (by omega);have hs8:=cu.size;skip;have cT:=jq cu;have Tf:=jq mp;clear j8 cu mp ho))
   refine⟨⟨k+1,A8,p8,b8,by omega,rfl,rfl,jq ?_,Tf,jq (HB.out.trans (((iU wr _).aSZ).trans ((aU.out.trans cL.out).trans cT.out)))⟩,by simp[intOf];omega⟩;rw[Tp.out,yo.out,vM.out,HQ.out,List.take_add_one,aQ af,vS.out,List.flatMap_append];show _=b5++(_++(Np.uf ds[k] ++ []));simp[Np.uf,List.append_assoc]
  ·have:k=ds.length:=by omega
   subst this;go_wp2_with fail;go_ret2;refine⟨nX.out.trans (HB.out.aSZ),_,rfl,?_⟩
   have:=HO.out.weaken (Nat.le_succ w.heap.size)
   have hq:bk=Np.xF ⟨s.data.toList,ty,life,ds⟩:=by
    rw[HQ.out,<-px.out,kz.out,iM.out,jg.out];simp[Np.xF,Np.GD]
   rw[<-hq];exact this
def Np.qj(n a:Int):Bool:=decide (1<=n)&&decide (n<=1000000)&&(decide (1<=a)&&decide (a<=3))
def Np.rG(f u:Int):Bool:=decide (0<=f)&&decide (f<=u)&&decide (u<=20000000)
theorem xM(f u:Int)(w:World) :
 Calls prog 59 #[.int .i64 f,.int .i64 u] w λe w'=>e = .returned (.bool (Np.rG f u))/\w'=w:=by
 by_cases h1:0<=f<;>by_cases h2:f<=u<;>by_cases h3:u<=20000000
 all_goals
  go_enter func59,ntmps59;go_wp2_with fail;go_ret;exact⟨by simp_all [Np.rG],rfl⟩
theorem vt(n a:Int)(w:World) :
 Calls prog 58 #[.agg #[.int .i64 n,.int .i64 a]] w (aUQ w.heap.size w (.bool (Np.qj n a))):=by
 go_enter func58,ntmps58;go_wp2_with fail
 all_goals
  go_ret;go_light;refine⟨aw ?_,iU _ _⟩;simp_all [Np.qj]<;>omega
def Np.gw(a d:Int):Bool:=decide (0<=a)&&decide (a<=10000000)&&decide (0<=d)&&decide (d<=1000)
theorem IU(a d:Int)(w:World) :
 Calls prog 50 #[.int .i64 a,.int .i64 d] w λe w'=>e = .returned (.bool (Np.gw a d))/\w'=w:=by
 go_enter func50,ntmps50;go_wp2_with fail
 all_goals
  go_ret;go_light;refine⟨aw ?_,rfl⟩;simp_all [Np.gw]<;>omega
theorem asX(s:ByteArray)(hs:s.size<=140737488355328)(ty life:Int)(v:Value)(ds:List Np.Datum)(w:World)(hR:bL w w.heap.size)(hd:SlR bS 3 w w.heap.size v ds)(hval:Np.bo ⟨s.data.toList,ty,life,ds⟩=false) :
 Calls prog 60 #[.agg #[.string s,.int .i64 ty,.int .i64 life,v]] w
  λe w'=>Below w.heap.size w w'/\∃ k:Int,k≠0/\e = .returned (.tuple #[.slice none 0 0,.int .i64 k]):=by
 have HR:=jq hR;have HD:=jq hd;have HV:=jq hval;obtain⟨A,c,rfl,bi,fD,cp⟩:=hd;clear hR cp hval;go_enter func60,ntmps60;go_wp2_with (go_at_call 33;refine (oX s hs ty life _ ds _ ((HR.out.keep (iU w _)).more (by simp)) ((HD.out.keep br (iU w _)).more bB (by simp))).mono ?_;rintro e w1 ⟨rfl,ay⟩;rw[HV.out];have aH:=jq ay;clear ay);go_ret2;exact⟨(iU w _).trans (aH.out.mono (by simp)),_,by decide,rfl⟩
def Np.nc(s:Np.DSet)(sn z:ByteArray)(n a f u:Int):Bool:=Np.qj n a&&(Np.rG f u&&(Np.ao z.data.toList&&(!Np.gu z.data.toList&&(Np.bo s&&Np.under sn z))))
def Np.lu(s:Np.DSet)(z:ByteArray)(n a f u:Int):Int:=Np.sum ((Np.xF s).map λc=>(c.toNat:Int)) z n a f u
theorem wI(s:ByteArray)(hs:s.size<=140737488355328)(w:World) :
 Calls prog 49 #[.string s,.string ⟨#[42]⟩] w (aUZ w (.bool (Np.gu s.data.toList))):=by
 have h1:1<=s.size->((s.extract 0 1).toList == [42])=Np.gu s.data.toList:=Po s;have h2:s.size<1->Np.gu s.data.toList=false:=λh=>by
  have:s.data.toList = []:=rQ (by rw[be];omega)
  rw[this];rfl
 have H1:=jq h1;have H2:=jq h2;clear h1 h2;go_enter func49,ntmps49;go_wp2
 ·go_ret;exact⟨aw (H1.out (by omega)),rfl⟩
 ·go_ret;exact⟨aw (H2.out (by omega)).symm,rfl⟩
theorem Qn(s:ByteArray)(hs:s.size<=140737488355328)(ty life:Int)(v:Value)(ds:List Np.Datum)(z:ByteArray)(hz:z.size<=140737488355328)(n a f u:Int)(w:World)(hR:bL w w.heap.size)(hd:SlR bS 3 w w.heap.size v ds)
 (fV:Np.nc ⟨s.data.toList,ty,life,ds⟩ s z n a f u=true) :
 Calls prog 23 #[.agg #[.string s,.int .i64 ty,.int .i64 life,v],.string z,.agg #[.int .i64 n,.int .i64 a],.int .i64 f,.int .i64 u] w
  λe w'=>e = .returned (.tuple #[.agg #[.string z,.int .i64 n,.int .i64 a,.int .i64 f,.int .i64 u,.int .u64 (Np.lu ⟨s.data.toList,ty,life,ds⟩ z n a f u)],.int .i64 0])/\Below w.heap.size w w':=by
 have HR:=jq hR;have HD:=jq hd;simp only[Np.nc,Bool.and_eq_true,Bool.not_eq_true'] at fV;obtain⟨k1,k2,k3,k4,k5,k6⟩:=fV;have OK:=jq (Np.QF k5);have gW:=Np.km k3;have HZ:=jq gW;have K1:=jq k1;have K2:=jq k2;have K3:=jq k3;have K4:=jq k4;have K5:=jq k5;have K6:=jq k6;obtain⟨A,c,rfl,bi,fD,cp⟩:=hd;clear hR cp k1 k2 k3 k4 k5 k6 gW;go_enter func23,ntmps23;go_wp2_with fail;refine (vt n a _).mono ?_;rintro e w1 ⟨rfl,hb⟩;rw[K1.out];obtain⟨c1,f1⟩:=dd hb;have HB:=jq hb;have z1:=hb.size;simp only[World.size_alloc] at z1;clear hb;go_wp2_with fail;refine (xM f u _).mono ?_;rintro e w' ⟨rfl,rfl⟩;rw[K2.out];go_wp2_with fail;refine (jE z hz _).mono ?_;rintro e w2 ⟨rfl,hb⟩;rw[K3.out];replace hb:=HB.out.trans (hb.mono (by simp;omega));clear HB c1 f1 z1;obtain⟨c1,f1⟩:=dd hb;have HB:=jq hb;have z1:=hb.size;simp only[World.size_alloc] at z1;clear hb;go_wp2_with fail;refine (wI z hz _).mono ?_;rintro e w' ⟨rfl,rfl⟩;rw[K4.out];go_wp2_with fail;refine (PZ s hs ty life _ ds _ ?_ ?_ K5.out).mono ?_
 ·exact (HR.out.keep (((((vQ _ w).alloc (bQ _) _).alloc (by simp) _).alloc (by simp;omega) _).trans (HB.out.mono (by simp;omega)))).more (by omega)
 ·exact (HD.out.keep br (((((vQ _ w).alloc (bQ _) _).alloc (by simp) _).alloc (by simp;omega) _).trans (HB.out.mono (by simp;omega)))).more bB (by omega)
 rintro e w3 ⟨hb,v',rfl,hown⟩;replace hb:=HB.out.trans (hb.mono (by simp;omega));clear HB c1 f1 z1;obtain⟨c1,f1⟩:=dd hb;have HB:=jq hb;have z1:=hb.size;simp only[World.size_alloc] at z1;have HO:=jq hown;clear hb hown;go_wp2_with fail;refine (IR s z hs hz _ ?_ K3.out).mono ?_
 ·have:=K5.out;simp only[Np.bo,Bool.and_eq_true] at this;exact this.1.1.1.1.1.1
 rintro e w4 ⟨rfl,hb⟩;rw[<-IQ,K6.out];have aF:=jq hb;replace hb:=HB.out.trans (hb.mono (by simp;omega));clear HB c1 f1 z1;obtain⟨c1,f1⟩:=dd hb;have HB:=jq hb;have z1:=hb.size;simp only[World.size_alloc] at z1;clear hb;go_wp2_with fail;have HY:Hid (pi w4 w4.heap.size v' ((Np.xF ⟨s.data.toList,ty,life,ds⟩).map λc=>(c.toNat:Int))):=jq ((HO.out.bytes (by
  have h1:=Np.FE OK.out.data;have h2:=OK.out.len;have h3:=OK.out.name;simp only[Np.xF,Np.GD,List.length_append,Np.text,Np.xC,List.length_cons,List.length_nil] at *;omega)).grow aF.out (aF.out.size))
 have Z3:z.size<=255:=by have:=HZ.out;simp at this;omega
 have k0:w4.cell? ⟨w.heap.size+1,0,none⟩=some (.int .i64 n):=by rw[c1 _ _ (by simp)];go_simp
 have k1:w4.cell? ⟨w.heap.size+1,1,none⟩=some (.int .i64 a):=by rw[c1 _ _ (by simp)];go_simp
 clear c1 f1;go_region_held3 (λw'=>w'.cell? ⟨w.heap.size+1,0,none⟩=some (.int .i64 n)/\w'.cell? ⟨w.heap.size+1,1,none⟩=some (.int .i64 a))
  (go_keep)
  (first
    | (go_at_call 62;refine (aEQ _ _ z Z3 n a f u _ (HY.out.grow (Below.drew (vQ _ _)) (bQ _))).mono ?_;rintro e w5 ⟨rfl,aI⟩;obtain⟨c5,f5⟩:=dd (HB.out.drew.trans (aI.mono (by simp;omega)));have aK:=jq aI;clear aI))
 go_wp2_with fail;refine bodyPost_ret (v:=.tuple #[.agg #[.string z,.int .i64 n,.int .i64 a,.int .i64 f,.int .i64 u,.int .u64 (Np.lu ⟨s.data.toList,ty,life,ds⟩ z n a f u)],.int .i64 0]) (by simp[results,results23,go_sem,c5];rfl) rfl ⟨rfl,?_⟩;have bH:Below w.heap.size w w5:=((((vQ _ w).alloc (bQ _) _).alloc (by simp) _).alloc (by simp;omega) _).trans ((HB.out.drew.trans (aK.out.mono (by simp;omega))).mono (by simp;omega))
 repeat refine Below.setCell ?_ (by simp<;>omega) _
 exact bH
theorem azK(s:ByteArray)(ty life:Int)(v:Value)(ds:List Np.Datum)(z:ByteArray)(n a f u:Int)(w:World)(hR:bL w w.heap.size)(hd:SlR bS 3 w w.heap.size v ds)
 (k1:Np.qj n a=false) :
 Calls prog 23 #[.agg #[.string s,.int .i64 ty,.int .i64 life,v],.string z,.agg #[.int .i64 n,.int .i64 a],.int .i64 f,.int .i64 u] w
  λe w'=>e = .returned (.tuple #[.agg #[.string ⟨#[]⟩,.int .i64 0,.int .i64 0,.int .i64 0,.int .i64 0,.int .u64 0],.int .i64 1])/\Below w.heap.size w w':=by
 have HR:=jq hR;have HD:=jq hd;have K1:=jq k1;obtain⟨A,c,rfl,bi,fD,cp⟩:=hd;clear hR cp k1;go_enter func23,ntmps23;go_wp2_with fail;refine (vt n a _).mono ?_;rintro e w1 ⟨rfl,hb⟩;rw[K1.out];obtain⟨c1,f1⟩:=dd hb;have HB:=jq hb;have z1:=hb.size;simp only[World.size_alloc] at z1;clear hb;go_wp2_with fail;refine bodyPost_ret (v:=.tuple #[.agg #[.string ⟨#[]⟩,.int .i64 0,.int .i64 0,.int .i64 0,.int .i64 0,.int .u64 0],.int .i64 1]) (by simp[results,results23,go_sem,c1]) rfl ⟨rfl,?_⟩;have bH:Below w.heap.size w _:=((((vQ _ w).alloc (bQ _) _).alloc (by simp) _).alloc (by simp;omega) _).trans (HB.out.mono (by simp;omega))
 repeat refine Below.setCell ?_ (by simp<;>omega) _
 exact bH
theorem azX(s:ByteArray)(ty life:Int)(v:Value)(ds:List Np.Datum)(z:ByteArray)(n a f u:Int)(w:World)(hR:bL w w.heap.size)(hd:SlR bS 3 w w.heap.size v ds)
 (k1:Np.qj n a=true) (k2:Np.rG f u=false) :
 Calls prog 23 #[.agg #[.string s,.int .i64 ty,.int .i64 life,v],.string z,.agg #[.int .i64 n,.int .i64 a],.int .i64 f,.int .i64 u] w
  λe w'=>e = .returned (.tuple #[.agg #[.string ⟨#[]⟩,.int .i64 0,.int .i64 0,.int .i64 0,.int .i64 0,.int .u64 0],.int .i64 1])/\Below w.heap.size w w':=by
 have HR:=jq hR;have HD:=jq hd;have K1:=jq k1;have K2:=jq k2;obtain⟨A,c,rfl,bi,fD,cp⟩:=hd;clear hR cp k1 k2;go_enter func23,ntmps23;go_wp2_with fail;refine (vt n a _).mono ?_;rintro e w1 ⟨rfl,hb⟩;rw[K1.out];obtain⟨c1,f1⟩:=dd hb;have HB:=jq hb;have z1:=hb.size;simp only[World.size_alloc] at z1;clear hb;go_wp2_with fail;refine (xM f u _).mono ?_;rintro e w' ⟨rfl,rfl⟩;rw[K2.out];go_wp2_with fail;refine bodyPost_ret (v:=.tuple #[.agg #[.string ⟨#[]⟩,.int .i64 0,.int .i64 0,.int .i64 0,.int .i64 0,.int .u64 0],.int .i64 1]) (by simp[results,results23,go_sem,c1]) rfl ⟨rfl,?_⟩;have bH:Below w.heap.size w _:=((((vQ _ w).alloc (bQ _) _).alloc (by simp) _).alloc (by simp;omega) _).trans (HB.out.mono (by simp;omega))
 repeat refine Below.setCell ?_ (by simp<;>omega) _
 exact bH
theorem azY(s:ByteArray)(ty life:Int)(v:Value)(ds:List Np.Datum)(z:ByteArray)(hz:z.size<=140737488355328)(n a f u:Int)(w:World)(hR:bL w w.heap.size)(hd:SlR bS 3 w w.heap.size v ds)
 (k1:Np.qj n a=true) (k2:Np.rG f u=true) (k3:Np.ao z.data.toList=false) :
 Calls prog 23 #[.agg #[.string s,.int .i64 ty,.int .i64 life,v],.string z,.agg #[.int .i64 n,.int .i64 a],.int .i64 f,.int .i64 u] w
  λe w'=>e = .returned (.tuple #[.agg #[.string ⟨#[]⟩,.int .i64 0,.int .i64 0,.int .i64 0,.int .i64 0,.int .u64 0],.int .i64 1])/\Below w.heap.size w w':=by
 have HR:=jq hR;have HD:=jq hd;have K1:=jq k1;have K2:=jq k2;have K3:=jq k3;obtain⟨A,c,rfl,bi,fD,cp⟩:=hd;clear hR cp k1 k2 k3;go_enter func23,ntmps23;go_wp2_with fail;refine (vt n a _).mono ?_;rintro e w1 ⟨rfl,hb⟩;rw[K1.out];obtain⟨c1,f1⟩:=dd hb;have HB:=jq hb;have z1:=hb.size;simp only[World.size_alloc] at z1;clear hb;go_wp2_with fail;refine (xM f u _).mono ?_;rintro e w' ⟨rfl,rfl⟩;rw[K2.out];go_wp2_with fail;refine (jE z hz _).mono ?_;rintro e w2 ⟨rfl,hb⟩;rw[K3.out];replace hb:=HB.out.trans (hb.mono (by simp;omega));clear HB c1 f1 z1;obtain⟨c1,f1⟩:=dd hb;have HB:=jq hb;have z1:=hb.size;simp only[World.size_alloc] at z1;clear hb;go_wp2_with fail;refine bodyPost_ret (v:=.tuple #[.agg #[.string ⟨#[]⟩,.int .i64 0,.int .i64 0,.int .i64 0,.int .i64 0,.int .u64 0],.int .i64 1]) (by simp[results,results23,go_sem,c1]) rfl ⟨rfl,?_⟩;have bH:Below w.heap.size w _:=((((vQ _ w).alloc (bQ _) _).alloc (by simp) _).alloc (by simp;omega) _).trans (HB.out.mono (by simp;omega))
 repeat refine Below.setCell ?_ (by simp<;>omega) _
 exact bH
theorem aAQ(s:ByteArray)(ty life:Int)(v:Value)(ds:List Np.Datum)(z:ByteArray)(hz:z.size<=140737488355328)(n a f u:Int)(w:World)(hR:bL w w.heap.size)(hd:SlR bS 3 w w.heap.size v ds)
 (k1:Np.qj n a=true) (k2:Np.rG f u=true) (k3:Np.ao z.data.toList=true) (k4:Np.gu z.data.toList=true) :
 Calls prog 23 #[.agg #[.string s,.int .i64 ty,.int .i64 life,v],.string z,.agg #[.int .i64 n,.int .i64 a],.int .i64 f,.int .i64 u] w
  λe w'=>e = .returned (.tuple #[.agg #[.string ⟨#[]⟩,.int .i64 0,.int .i64 0,.int .i64 0,.int .i64 0,.int .u64 0],.int .i64 1])/\Below w.heap.size w w':=by
 have HR:=jq hR;have HD:=jq hd;have K1:=jq k1;have K2:=jq k2;have K3:=jq k3;have K4:=jq k4;obtain⟨A,c,rfl,bi,fD,cp⟩:=hd;clear hR cp k1 k2 k3 k4;go_enter func23,ntmps23;go_wp2_with fail;refine (vt n a _).mono ?_;rintro e w1 ⟨rfl,hb⟩;rw[K1.out];obtain⟨c1,f1⟩:=dd hb;have HB:=jq hb;have z1:=hb.size;simp only[World.size_alloc] at z1;clear hb;go_wp2_with fail;refine (xM f u _).mono ?_;rintro e w' ⟨rfl,rfl⟩;rw[K2.out];go_wp2_with fail;refine (jE z hz _).mono ?_;rintro e w2 ⟨rfl,hb⟩;rw[K3.out];replace hb:=HB.out.trans (hb.mono (by simp;omega));clear HB c1 f1 z1;obtain⟨c1,f1⟩:=dd hb;have HB:=jq hb;have z1:=hb.size;simp only[World.size_alloc] at z1;clear hb;go_wp2_with fail;refine (wI z hz _).mono ?_;rintro e w' ⟨rfl,rfl⟩;rw[K4.out];go_wp2_with fail;refine bodyPost_ret (v:=.tuple #[.agg #[.string ⟨#[]⟩,.int .i64 0,.int .i64 0,.int .i64 0,.int .i64 0,.int .u64 0],.int .i64 1]) (by simp[results,results23,go_sem,c1]) rfl ⟨rfl,?_⟩;have bH:Below w.heap.size w _:=((((vQ _ w).alloc (bQ _) _).alloc (by simp) _).alloc (by simp;omega) _).trans (HB.out.mono (by simp;omega))
 repeat refine Below.setCell ?_ (by simp<;>omega) _
 exact bH
theorem aAZ(s:ByteArray)(hs:s.size<=140737488355328)(ty life:Int)(v:Value)(ds:List Np.Datum)(z:ByteArray)(hz:z.size<=140737488355328)(n a f u:Int)(w:World)(hR:bL w w.heap.size)(hd:SlR bS 3 w w.heap.size v ds)
 (k1:Np.qj n a=true) (k2:Np.rG f u=true) (k3:Np.ao z.data.toList=true) (k4:Np.gu z.data.toList=false) (k5:Np.bo ⟨s.data.toList,ty,life,ds⟩=false) :
 Calls prog 23 #[.agg #[.string s,.int .i64 ty,.int .i64 life,v],.string z,.agg #[.int .i64 n,.int .i64 a],.int .i64 f,.int .i64 u] w
  λe w'=>e = .returned (.tuple #[.agg #[.string ⟨#[]⟩,.int .i64 0,.int .i64 0,.int .i64 0,.int .i64 0,.int .u64 0],.int .i64 1])/\Below w.heap.size w w':=by
 have HR:=jq hR;have HD:=jq hd;have K1:=jq k1;have K2:=jq k2;have K3:=jq k3;have K4:=jq k4;have K5:=jq k5;obtain⟨A,c,rfl,bi,fD,cp⟩:=hd;clear hR cp k1 k2 k3 k4 k5;go_enter func23,ntmps23;go_wp2_with fail;refine (vt n a _).mono ?_;rintro e w1 ⟨rfl,hb⟩;rw[K1.out];obtain⟨c1,f1⟩:=dd hb;have HB:=jq hb;have z1:=hb.size;simp only[World.size_alloc] at z1;clear hb;go_wp2_with fail;refine (xM f u _).mono ?_;rintro e w' ⟨rfl,rfl⟩;rw[K2.out];go_wp2_with fail;refine (jE z hz _).mono ?_;rintro e w2 ⟨rfl,hb⟩;rw[K3.out];replace hb:=HB.out.trans (hb.mono (by simp;omega));clear HB c1 f1 z1;obtain⟨c1,f1⟩:=dd hb;have HB:=jq hb;have z1:=hb.size;simp only[World.size_alloc] at z1;clear hb;go_wp2_with fail;refine (wI z hz _).mono ?_;rintro e w' ⟨rfl,rfl⟩;rw[K4.out];go_wp2_with fail;refine (asX s hs ty life _ ds _ ?_ ?_ K5.out).mono ?_
 ·exact (HR.out.keep (((((vQ _ w).alloc (bQ _) _).alloc (by simp) _).alloc (by simp;omega) _).trans (HB.out.mono (by simp;omega)))).more (by omega)
 ·exact (HD.out.keep br (((((vQ _ w).alloc (bQ _) _).alloc (by simp) _).alloc (by simp;omega) _).trans (HB.out.mono (by simp;omega)))).more bB (by omega)
 rintro e w3 ⟨hb,k,hk,rfl⟩;have hk':(k != 0)=true:=by simp[hk]
 clear hk;replace hb:=HB.out.trans (hb.mono (by simp;omega));clear HB c1 f1 z1;obtain⟨c1,f1⟩:=dd hb;have HB:=jq hb;have z1:=hb.size;simp only[World.size_alloc] at z1;clear hb;go_wp2_with fail;refine bodyPost_ret (v:=.tuple #[.agg #[.string ⟨#[]⟩,.int .i64 0,.int .i64 0,.int .i64 0,.int .i64 0,.int .u64 0],.int .i64 1]) (by simp[results,results23,go_sem,c1]) rfl ⟨rfl,?_⟩;have bH:Below w.heap.size w _:=((((vQ _ w).alloc (bQ _) _).alloc (by simp) _).alloc (by simp;omega) _).trans (HB.out.mono (by simp;omega))
 repeat refine Below.setCell ?_ (by simp<;>omega) _
 exact bH
theorem aAJ(s:ByteArray)(hs:s.size<=140737488355328)(ty life:Int)(v:Value)(ds:List Np.Datum)(z:ByteArray)(hz:z.size<=140737488355328)(n a f u:Int)(w:World)(hR:bL w w.heap.size)(hd:SlR bS 3 w w.heap.size v ds)
 (k1:Np.qj n a=true) (k2:Np.rG f u=true) (k3:Np.ao z.data.toList=true) (k4:Np.gu z.data.toList=false) (k5:Np.bo ⟨s.data.toList,ty,life,ds⟩=true) (k6:Np.under s z=false) :
 Calls prog 23 #[.agg #[.string s,.int .i64 ty,.int .i64 life,v],.string z,.agg #[.int .i64 n,.int .i64 a],.int .i64 f,.int .i64 u] w
  λe w'=>e = .returned (.tuple #[.agg #[.string ⟨#[]⟩,.int .i64 0,.int .i64 0,.int .i64 0,.int .i64 0,.int .u64 0],.int .i64 1])/\Below w.heap.size w w':=by
 have HR:=jq hR;have HD:=jq hd;have K1:=jq k1;have K2:=jq k2;have K3:=jq k3;have K4:=jq k4;have K5:=jq k5;have K6:=jq k6;obtain⟨A,c,rfl,bi,fD,cp⟩:=hd;clear hR cp k1 k2 k3 k4 k5 k6;go_enter func23,ntmps23;go_wp2_with fail;refine (vt n a _).mono ?_;rintro e w1 ⟨rfl,hb⟩;rw[K1.out];obtain⟨c1,f1⟩:=dd hb;have HB:=jq hb;have z1:=hb.size;simp only[World.size_alloc] at z1;clear hb;go_wp2_with fail;refine (xM f u _).mono ?_;rintro e w' ⟨rfl,rfl⟩;rw[K2.out];go_wp2_with fail;refine (jE z hz _).mono ?_;rintro e w2 ⟨rfl,hb⟩;rw[K3.out];replace hb:=HB.out.trans (hb.mono (by simp;omega));clear HB c1 f1 z1;obtain⟨c1,f1⟩:=dd hb;have HB:=jq hb;have z1:=hb.size;simp only[World.size_alloc] at z1;clear hb;go_wp2_with fail;refine (wI z hz _).mono ?_;rintro e w' ⟨rfl,rfl⟩;rw[K4.out];go_wp2_with fail;refine (PZ s hs ty life _ ds _ ?_ ?_ K5.out).mono ?_
 ·exact (HR.out.keep (((((vQ _ w).alloc (bQ _) _).alloc (by simp) _).alloc (by simp;omega) _).trans (HB.out.mono (by simp;omega)))).more (by omega)
 ·exact (HD.out.keep br (((((vQ _ w).alloc (bQ _) _).alloc (by simp) _).alloc (by simp;omega) _).trans (HB.out.mono (by simp;omega)))).more bB (by omega)
 rintro e w3 ⟨hb,v',rfl,hown⟩;replace hb:=HB.out.trans (hb.mono (by simp;omega));clear HB c1 f1 z1;obtain⟨c1,f1⟩:=dd hb;have HB:=jq hb;have z1:=hb.size;simp only[World.size_alloc] at z1;have HO:=jq hown;clear hb hown;go_wp2_with fail;refine (IR s z hs hz _ ?_ K3.out).mono ?_
 ·have:=K5.out;simp only[Np.bo,Bool.and_eq_true] at this;exact this.1.1.1.1.1.1
 rintro e w4 ⟨rfl,hb⟩;rw[<-IQ,K6.out];have aF:=jq hb;replace hb:=HB.out.trans (hb.mono (by simp;omega));clear HB c1 f1 z1;obtain⟨c1,f1⟩:=dd hb;have HB:=jq hb;have z1:=hb.size;simp only[World.size_alloc] at z1;clear hb;go_wp2_with fail;refine bodyPost_ret (v:=.tuple #[.agg #[.string ⟨#[]⟩,.int .i64 0,.int .i64 0,.int .i64 0,.int .i64 0,.int .u64 0],.int .i64 1]) (by simp[results,results23,go_sem,c1]) rfl ⟨rfl,?_⟩;have bH:Below w.heap.size w _:=((((vQ _ w).alloc (bQ _) _).alloc (by simp) _).alloc (by simp;omega) _).trans (HB.out.mono (by simp;omega))
 repeat refine Below.setCell ?_ (by simp<;>omega) _
 exact bH
theorem azJ(s:ByteArray)(hs:s.size<=140737488355328)(ty life:Int)(v:Value)(ds:List Np.Datum)(z:ByteArray)(hz:z.size<=140737488355328)(n a f u:Int)(w:World)(hR:bL w w.heap.size)(hd:SlR bS 3 w w.heap.size v ds)
 (fV:Np.nc ⟨s.data.toList,ty,life,ds⟩ s z n a f u=false) :
 Calls prog 23 #[.agg #[.string s,.int .i64 ty,.int .i64 life,v],.string z,.agg #[.int .i64 n,.int .i64 a],.int .i64 f,.int .i64 u] w
  λe w'=>e = .returned (.tuple #[.agg #[.string ⟨#[]⟩,.int .i64 0,.int .i64 0,.int .i64 0,.int .i64 0,.int .u64 0],.int .i64 1])/\Below w.heap.size w w':=by
 by_cases k1:Np.qj n a=true
 ·by_cases k2:Np.rG f u=true
  ·by_cases k3:Np.ao z.data.toList=true
   ·by_cases k4:Np.gu z.data.toList=false
    ·by_cases k5:Np.bo ⟨s.data.toList,ty,life,ds⟩=true
     ·exact aAJ s hs ty life v ds z hz n a f u w hR hd k1 k2 k3 k4 k5 (by simpa [Np.nc,k1,k2,k3,k4,k5] using fV)
     ·exact aAZ s hs ty life v ds z hz n a f u w hR hd k1 k2 k3 k4 (by simpa using k5)
    ·exact aAQ s ty life v ds z hz n a f u w hR hd k1 k2 k3 (by simpa using k4)
   ·exact azY s ty life v ds z hz n a f u w hR hd k1 k2 (by simpa using k3)
  ·exact azX s ty life v ds z n a f u w hR hd k1 (by simpa using k2)
 ·exact azK s ty life v ds z n a f u w hR hd (by simpa using k1)
def Np.yM(s:Np.DSet)(sn z:ByteArray)(key alg f u sum n a:Int):Bool:=Np.nc s sn z n a f u&&(decide (key=n)&&(decide (alg=a)&&decide (sum=Np.lu s z n a f u)))
theorem L4(s:ByteArray)(hs:s.size<=140737488355328)(ty life:Int)(v:Value)(ds:List Np.Datum)(z:ByteArray)(hz:z.size<=140737488355328)(key alg f u sum n a:Int)(w:World)(hR:bL w w.heap.size)(hd:SlR bS 3 w w.heap.size v ds) :
 Calls prog 22 #[.agg #[.string s,.int .i64 ty,.int .i64 life,v],.agg #[.string z,.int .i64 key,.int .i64 alg,.int .i64 f,.int .i64 u,.int .u64 sum],.agg #[.int .i64 n,.int .i64 a]] w
  λe w'=>e = .returned (.bool (Np.yM ⟨s.data.toList,ty,life,ds⟩ s z key alg f u sum n a))/\Below w.heap.size w w':=by
 have HR:=jq hR;have HD:=jq hd;obtain⟨A,c,rfl,bi,fD,cp⟩:=hd;clear hR cp;have ix:∀ o1 o2 o3:Obj,Below w.heap.size w (((w.alloc o1).alloc o2).alloc o3):=λo1 o2 o3=>(((vQ _ w).alloc (bQ _) _).alloc (by simp) _).alloc (by simp;omega) _;have aG:=jq ix;clear ix;by_cases fV:Np.nc ⟨s.data.toList,ty,life,ds⟩ s z n a f u=true
 ·have OK:=jq fV;clear fV;go_enter func22,ntmps22;go_wp2_with fail;refine (Qn s hs ty life _ ds z hz n a f u _ ?_ ?_ OK.out).mono ?_
  ·exact (HR.out.keep (aG.out _ _ _)).more (by simp;omega)
  ·exact (HD.out.keep br (aG.out _ _ _)).more bB (by simp;omega)
  rintro e w1 ⟨rfl,hb⟩;obtain⟨c1,f1⟩:=dd hb;have z1:=hb.size;simp only[World.size_alloc] at z1;have HB:=jq ((aG.out _ _ _).trans (hb.mono (by simp;omega)));have l1:w.heap.size+1<w1.heap.size:=by omega
  clear hb;go_wp2_with fail
  all_goals
   go_ret;refine⟨aw ?_,HB.out.alloc (by omega) _⟩;have ok:=OK.out;go_light;simp_all [Np.yM]<;>(intros;subst_vars;first | omega | simp_all)
 ·have OK:=jq (show Np.nc ⟨s.data.toList,ty,life,ds⟩ s z n a f u=false by simpa using fV);clear fV;go_enter func22,ntmps22;go_wp2_with fail;refine (azJ s hs ty life _ ds z hz n a f u _ ?_ ?_ OK.out).mono ?_
  ·exact (HR.out.keep (aG.out _ _ _)).more (by simp;omega)
  ·exact (HD.out.keep br (aG.out _ _ _)).more bB (by simp;omega)
  rintro e w1 ⟨rfl,hb⟩;obtain⟨c1,f1⟩:=dd hb;have z1:=hb.size;simp only[World.size_alloc] at z1;have HB:=jq ((aG.out _ _ _).trans (hb.mono (by simp;omega)));have l1:w.heap.size+1<w1.heap.size:=by omega
  clear hb;go_wp2_with fail;go_ret;refine⟨aw ?_,HB.out.alloc (by omega) _⟩;rw[Np.yM,OK.out];rfl
theorem yW{α:Type}(p:α->Bool)(xs:List α)(k:Nat)(hk:k<xs.length)(h:∀ x∈xs.take k,p x=false)(hx:p xs[k]=true):xs.find? p=some xs[k]:=by
 induction xs generalizing k with
 | nil=>simp at hk
 | cons x r ih=>
  cases k with
  | zero=>simp at hx;simp[hx]
  | succ k=>
   have h0:p x=false:=h x (by simp);rw[List.find?_cons_of_neg (by simp[h0])];exact ih k (by simpa using hk) (λy hy=>h y (by simp[hy])) (by simpa using hx)
structure Np.Key where
 n:Int
 alg:Int
deriving DecidableEq
def iS(_:World)(_:Nat)(e:List Value)(k:Np.Key):Prop:=e = [.int .i64 k.n,.int .i64 k.alg]
theorem ki:eh iS:=λ_ _ _ _ _ h _=>h
theorem oZ:eI iS:=λ_ _ _ _ _ h _=>h
def VD(B:Nat)(w:World)(f:FuncId)(cap:Array Value)(p:Np.Sig->Bool)(xs:List Np.Sig):Prop:=
 ∀ (W:World) (x:Np.Sig) (e:List Value),x∈xs->Below B w W->B<=W.heap.size->dw W B e x->Calls prog f (#[.agg e.toArray]++cap) W λe w'=>e = .returned (.bool (p x))/\Below W.heap.size W w'
def Q9(B:Nat)(w:World)(p:Np.Sig->Bool)(xs:List Np.Sig)(e:Ending)(w':World):Prop:=
 ∃ (s:ByteArray) (a b c d q:Int),e = .returned (.tuple #[.agg #[.string s,.int .i64 a,.int .i64 b,.int .i64 c,.int .i64 d,.int .u64 q],.bool (xs.any p)])/\Below w.heap.size w w'/\(∀ x,xs.find? p=some x->dw w B [.string s,.int .i64 a,.int .i64 b,.int .i64 c,.int .i64 d,.int .u64 q] x)/\(xs.any p=false->([.string s,.int .i64 a,.int .i64 b,.int .i64 c,.int .i64 d,.int .u64 q]:List Value) = [.string ⟨#[]⟩,.int .i64 0,.int .i64 0,.int .i64 0,.int .i64 0,.int .u64 0])
theorem Xy(f:FuncId)(eg:∀ args w,(callFunc f args).run prog w = .ok (.enter f args) w)(cap:Array Value)(p:Np.Sig->Bool)(v:Value)(xs:List Np.Sig)(w:World)(B:Nat)(hB:B<=w.heap.size)(h:SlR dw 6 w B v xs)
 (hp:VD B w f cap p xs) :
 Calls prog 162 #[v,.func (.func f) #[] cap] w (Q9 B w p xs):=by
 have H:=jq h;have HP:=jq hp;obtain⟨A,c,rfl,bi,fD,cp⟩:=h;clear cp hp;go_enter func162,ntmps162;go_wp2_with fail;go_loopw [11] (λi wr=>∃ k:Nat,k<=xs.length/\i = .int .i64 k/\Below (w.heap.size+1) (w.alloc (.cells #[.string ⟨#[]⟩,.int .i64 0,.int .i64 0,.int .i64 0,.int .i64 0,.int .u64 0] 56)) wr/\Hid (∀ x∈xs.take k,p x=false)) (λi _=>xs.length - (intOf i).toNat)
 case atStart=>exact⟨0,jQ _,rfl,vQ _ _,jq (by simp)⟩
 case round=>
  obtain⟨k,hk,rfl,hb,HA⟩:=hrel;have bH:Below w.heap.size w wr:=((vQ _ w).alloc (bQ _) _).trans (hb.aSZ);have au:=hb.size;simp only[World.size_alloc] at au;have dW:=jq hb;have bU:=jq bH;clear hb bH;by_cases af:k<xs.length
  ·have eU:=bU.out.mono hB;obtain⟨A',c',hA',_,_,dH⟩:=H.out.keep cK eU
   cases hA'
   obtain⟨b,o,e,rfl,dB,hlen,hce,hR⟩:=dH k _ (aQ af);obtain⟨_,_,jU,_,_,sS⟩:=H.out
   cases jU
   obtain⟨b0,o0,e',cF,NT,zS,sP,kM⟩:=sS k _ (aQ af)
   cases cF
   have nA:e'=e:=by
    refine List.ext_getElem? λj=>?_;rcases Nat.lt_or_ge j 6 with hj | hj
    ·have h1:=hce j _ (aQ (by omega));have h2:=sP j _ (aQ (by omega));rw[eU.cell (by exact dB),h2] at h1;rw[aQ (by omega),aQ (by omega)];exact h1
    ·rw[List.getElem?_eq_none (by omega),List.getElem?_eq_none (by omega)]
   subst nA;have iu:=jq kM;clear sS sP kM zS;have hR':=hR;obtain⟨sz,oJ,i8,rfl⟩:=hR';have E1:=jq oJ;clear oJ;have h0:wr.cell? ⟨b,o+k * 6,none⟩=some (.string sz):=hce 0 _ rfl;have h1:wr.cell? ⟨b,o+k * 6+1,none⟩=some (.int .i64 xs[k].key):=hce 1 _ rfl;have h2:wr.cell? ⟨b,o+k * 6+2,none⟩=some (.int .i64 xs[k].alg):=hce 2 _ rfl;have h3:wr.cell? ⟨b,o+k * 6+3,none⟩=some (.int .i64 xs[k].frm):=hce 3 _ rfl;have h4:wr.cell? ⟨b,o+k * 6+4,none⟩=some (.int .i64 xs[k].til):=hce 4 _ rfl;have h5:wr.cell? ⟨b,o+k * 6+5,none⟩=some (.int .u64 xs[k].sum):=hce 5 _ rfl;have cO:=λo=>HP.out (wr.alloc o) xs[k] _ (List.getElem_mem af) (eU.alloc (by omega) _) (by simp;omega) (cK _ _ _ _ _ hR ((vQ _ wr).alloc (by omega) _));have HC:=jq cO;clear dH hce hR cO eU;go_wp2_with (fail);refine (HC.out _).mono ?_;rintro e w2 ⟨rfl,ag⟩;obtain⟨c2,f2⟩:=dd ag;have eN:=ag.size;simp only[World.size_alloc] at eN;have ai:Below (w.heap.size+1) (w.alloc (.cells #[.string ⟨#[]⟩,.int .i64 0,.int .i64 0,.int .i64 0,.int .i64 0,.int .u64 0] 56)) w2:=(dW.out.alloc au _).trans (ag.mono (by simp;omega));by_cases bw:p xs[k]=true
   ·have HX:=jq bw;have d0:w2.cell? ⟨wr.heap.size,0,none⟩=some (.string sz):=by rw[c2 _ _ (by simp)];go_simp
    have d1:w2.cell? ⟨wr.heap.size,1,none⟩=some (.int .i64 xs[k].key):=by rw[c2 _ _ (by simp)];go_simp
    have d2:w2.cell? ⟨wr.heap.size,2,none⟩=some (.int .i64 xs[k].alg):=by rw[c2 _ _ (by simp)];go_simp
    have d3:w2.cell? ⟨wr.heap.size,3,none⟩=some (.int .i64 xs[k].frm):=by rw[c2 _ _ (by simp)];go_simp
    have d4:w2.cell? ⟨wr.heap.size,4,none⟩=some (.int .i64 xs[k].til):=by rw[c2 _ _ (by simp)];go_simp
    have d5:w2.cell? ⟨wr.heap.size,5,none⟩=some (.int .u64 xs[k].sum):=by rw[c2 _ _ (by simp)];go_simp
    obtain⟨c3,f3⟩:=dd (ai.mono (by simp));have am:=jq ai;clear c2 f2 ag ai;go_wp2_with (fail);refine bodyPost_ret (v:=.tuple #[.agg #[.string sz,.int .i64 xs[k].key,.int .i64 xs[k].alg,.int .i64 xs[k].frm,.int .i64 xs[k].til,.int .u64 xs[k].sum],.bool true]) (by simp[results,results162,go_sem,c3]) rfl ⟨sz,xs[k].key,xs[k].alg,xs[k].frm,xs[k].til,xs[k].sum,?_,?_,λx hx=>?_,λhx=>?_⟩
    ·rw[show xs.any p=true from List.any_eq_true.2 ⟨_,List.getElem_mem af,HX.out⟩]
    ·have bH:Below w.heap.size w w2:=((vQ _ w).alloc (bQ _) _).trans (am.out.aSZ)
     repeat refine Below.setCell ?_ (by simp) _
     exact bH
    ·have:=yW p xs k af HA.out HX.out
     rw[this] at hx
     cases hx
     exact iu.out
    ·rw[show xs.any p=true from List.any_eq_true.2 ⟨_,List.getElem_mem af,HX.out⟩] at hx;cases hx
   ·have pW:p xs[k]=false:=by simpa using bw
    have HX:=jq pW;have am:=jq ai;clear bw c2 f2 ag ai;go_wp2_with (fail);go_roundw
    case rel=>
     refine⟨k+1,by omega,by go_num,am.out,jq ?_⟩;rw[fQ af];intro x hx;rcases List.mem_append.1 hx with h | h
     ·exact HA.out x h
     ·simp at h;subst h;exact HX.out
    case measure=>simp[intOf]<;>omega
  ·obtain⟨c3,f3⟩:=dd (dW.out.mono (by simp));have bX:∀ x∈xs,p x=false:=by have:=HA.out;rwa [kQ (by omega)] at this
   have HN:=jq bX;have l0:w.heap.size<wr.heap.size:=by omega
   clear bX;go_wp2_with fail;refine bodyPost_ret (v:=.tuple #[.agg #[.string ⟨#[]⟩,.int .i64 0,.int .i64 0,.int .i64 0,.int .i64 0,.int .u64 0],.bool false]) (by simp[results,results162,go_sem,c3,l0]) rfl ⟨⟨#[]⟩,0,0,0,0,0,?_,?_,λx hx=>?_,λ_=>rfl⟩
   ·rw[show xs.any p=false from List.any_eq_false.2 (λx hx=>by simp[HN.out x hx])]
   ·refine Below.alloc ?_ (by simp;omega) _
    repeat refine Below.setCell ?_ (by simp) _
    exact bU.out
   ·have:=List.find?_some hx
    rw[HN.out x (List.mem_of_find?_eq_some hx)] at this
    cases this
def VC(B:Nat)(w:World)(f:FuncId)(cap:Array Value)(p:Np.Key->Bool)(xs:List Np.Key):Prop:=
 ∀ (W:World) (x:Np.Key) (e:List Value),x∈xs->Below B w W->B<=W.heap.size->iS W B e x->Calls prog f (#[.agg e.toArray]++cap) W λe w'=>e = .returned (.bool (p x))/\Below W.heap.size W w'
def Q8(B:Nat)(w:World)(p:Np.Key->Bool)(xs:List Np.Key)(e:Ending)(w':World):Prop:=
 ∃ (a b:Int),e = .returned (.tuple #[.agg #[.int .i64 a,.int .i64 b],.bool (xs.any p)])/\Below w.heap.size w w'/\(∀ x,xs.find? p=some x->iS w B [.int .i64 a,.int .i64 b] x)/\(xs.any p=false->([.int .i64 a,.int .i64 b]:List Value) = [.int .i64 0,.int .i64 0])
theorem MD(f:FuncId)(eg:∀ args w,(callFunc f args).run prog w = .ok (.enter f args) w)(cap:Array Value)(p:Np.Key->Bool)(v:Value)(xs:List Np.Key)(w:World)(B:Nat)(hB:B<=w.heap.size)(h:SlR iS 2 w B v xs)
 (hp:VC B w f cap p xs) :
 Calls prog 164 #[v,.func (.func f) #[] cap] w (Q8 B w p xs):=by
 have H:=jq h;have HP:=jq hp;obtain⟨A,c,rfl,bi,fD,cp⟩:=h;clear cp hp;go_enter func164,ntmps164;go_wp2_with fail;go_loopw [11] (λi wr=>∃ k:Nat,k<=xs.length/\i = .int .i64 k/\Below (w.heap.size+1) (w.alloc (.cells #[.int .i64 0,.int .i64 0] 53)) wr/\Hid (∀ x∈xs.take k,p x=false)) (λi _=>xs.length - (intOf i).toNat)
 case atStart=>exact⟨0,jQ _,rfl,vQ _ _,jq (by simp)⟩
 case round=>
  obtain⟨k,hk,rfl,hb,HA⟩:=hrel;have bH:Below w.heap.size w wr:=((vQ _ w).alloc (bQ _) _).trans (hb.aSZ);have au:=hb.size;simp only[World.size_alloc] at au;have dW:=jq hb;have bU:=jq bH;clear hb bH;by_cases af:k<xs.length
  ·have eU:=bU.out.mono hB;obtain⟨A',c',hA',_,_,dH⟩:=H.out.keep ki eU
   cases hA'
   obtain⟨b,o,e,rfl,dB,hlen,hce,hR⟩:=dH k _ (aQ af);obtain⟨_,_,jU,_,_,sS⟩:=H.out
   cases jU
   obtain⟨b0,o0,e',cF,NT,zS,sP,kM⟩:=sS k _ (aQ af)
   cases cF
   have nA:e'=e:=by
    refine List.ext_getElem? λj=>?_;rcases Nat.lt_or_ge j 2 with hj | hj
    ·have h1:=hce j _ (aQ (by omega));have h2:=sP j _ (aQ (by omega));rw[eU.cell (by exact dB),h2] at h1;rw[aQ (by omega),aQ (by omega)];exact h1
    ·rw[List.getElem?_eq_none (by omega),List.getElem?_eq_none (by omega)]
   subst nA;have iu:=jq kM;clear sS sP kM zS;have hR':=hR;obtain rfl:=hR';have h0:wr.cell? ⟨b,o+k * 2,none⟩=some (.int .i64 xs[k].n):=hce 0 _ rfl;have h1:wr.cell? ⟨b,o+k * 2+1,none⟩=some (.int .i64 xs[k].alg):=hce 1 _ rfl;have cO:=λo=>HP.out (wr.alloc o) xs[k] _ (List.getElem_mem af) (eU.alloc (by omega) _) (by simp;omega) (ki _ _ _ _ _ hR ((vQ _ wr).alloc (by omega) _));have HC:=jq cO;clear dH hce hR cO eU;go_wp2_with (fail);refine (HC.out _).mono ?_;rintro e w2 ⟨rfl,ag⟩;obtain⟨c2,f2⟩:=dd ag;have eN:=ag.size;simp only[World.size_alloc] at eN;have ai:Below (w.heap.size+1) (w.alloc (.cells #[.int .i64 0,.int .i64 0] 53)) w2:=(dW.out.alloc au _).trans (ag.mono (by simp;omega));by_cases bw:p xs[k]=true
   ·have HX:=jq bw;have d0:w2.cell? ⟨wr.heap.size,0,none⟩=some (.int .i64 xs[k].n):=by rw[c2 _ _ (by simp)];go_simp
    have d1:w2.cell? ⟨wr.heap.size,1,none⟩=some (.int .i64 xs[k].alg):=by rw[c2 _ _ (by simp)];go_simp
    obtain⟨c3,f3⟩:=dd (ai.mono (by simp));have am:=jq ai;clear c2 f2 ag ai;go_wp2_with (fail);refine bodyPost_ret (v:=.tuple #[.agg #[.int .i64 xs[k].n,.int .i64 xs[k].alg],.bool true]) (by simp[results,results164,go_sem,c3]) rfl ⟨xs[k].n,xs[k].alg,?_,?_,λx hx=>?_,λhx=>?_⟩
    ·rw[show xs.any p=true from List.any_eq_true.2 ⟨_,List.getElem_mem af,HX.out⟩]
    ·have bH:Below w.heap.size w w2:=((vQ _ w).alloc (bQ _) _).trans (am.out.aSZ)
     repeat refine Below.setCell ?_ (by simp) _
     exact bH
    ·have:=yW p xs k af HA.out HX.out
     rw[this] at hx
     cases hx
     exact iu.out
    ·rw[show xs.any p=true from List.any_eq_true.2 ⟨_,List.getElem_mem af,HX.out⟩] at hx;cases hx
   ·have pW:p xs[k]=false:=by simpa using bw
    have HX:=jq pW;have am:=jq ai;clear bw c2 f2 ag ai;go_wp2_with (fail);go_roundw
    case rel=>
     refine⟨k+1,by omega,by go_num,am.out,jq ?_⟩;rw[fQ af];intro x hx;rcases List.mem_append.1 hx with h | h
     ·exact HA.out x h
     ·simp at h;subst h;exact HX.out
    case measure=>simp[intOf]<;>omega
  ·obtain⟨c3,f3⟩:=dd (dW.out.mono (by simp));have bX:∀ x∈xs,p x=false:=by have:=HA.out;rwa [kQ (by omega)] at this
   have HN:=jq bX;have l0:w.heap.size<wr.heap.size:=by omega
   clear bX;go_wp2_with fail;refine bodyPost_ret (v:=.tuple #[.agg #[.int .i64 0,.int .i64 0],.bool false]) (by simp[results,results164,go_sem,c3,l0]) rfl ⟨0,0,?_,?_,λx hx=>?_,λ_=>rfl⟩
   ·rw[show xs.any p=false from List.any_eq_false.2 (λx hx=>by simp[HN.out x hx])]
   ·refine Below.alloc ?_ (by simp;omega) _
    repeat refine Below.setCell ?_ (by simp) _
    exact bU.out
   ·have:=List.find?_some hx
    rw[HN.out x (List.mem_of_find?_eq_some hx)] at this
    cases this
end
section
open Go.RowKit Go.Shelf
def Np.pE(s:Np.DSet)(g:Np.Sig)(k:Np.Key):Bool:=Np.yM s ⟨s.name.toArray⟩ ⟨g.zone.toArray⟩ g.key g.alg g.frm g.til g.sum k.n k.alg
def Np.rC(s:Np.DSet)(zone:List UInt8)(keys:List Np.Key)(t d:Int)(g:Np.Sig):Bool:=decide (g.zone=zone)&&(decide (g.frm<=t - d)&&(decide (t+d<=g.til)&&keys.any (Np.pE s g)))
def Np.e8(s:Np.Signed)(zone:List UInt8)(keys:List Np.Key)(t d:Int):Bool:=Np.gw t d&&s.sigs.any (Np.rC s.set zone keys t d)
theorem Fm(s:ByteArray):(⟨s.data.toList.toArray⟩:ByteArray)=s:=by cases s;simp
theorem Fo{s:ByteArray}{l:List UInt8}(h:s.data.toList=l):(⟨l.toArray⟩:ByteArray)=s:=by subst h;exact Fm s
theorem aAK(bs bg:Nat)(s:ByteArray)(hs:s.size<=140737488355328)(ty life:Int)(v:Value)(ds:List Np.Datum)(g:Np.Sig)(z:ByteArray)(gW:z.data.toList=g.zone)(hz:z.size<=140737488355328)(k:Np.Key)(w:World)(hR:bL w w.heap.size)(hd:SlR bS 3 w w.heap.size v ds)
 (hcs:eB w bs 0 [.string s,.int .i64 ty,.int .i64 life,v]) (sR:eB w bg 0 [.string z,.int .i64 g.key,.int .i64 g.alg,.int .i64 g.frm,.int .i64 g.til,.int .u64 g.sum]) :
 Calls prog 165 #[.agg #[.int .i64 k.n,.int .i64 k.alg],.pointer (some ⟨bs,0,none⟩),.pointer (some ⟨bg,0,none⟩)] w
  λe w'=>e = .returned (.bool (Np.pE ⟨s.data.toList,ty,life,ds⟩ g k))/\Below w.heap.size w w':=by
 have HR:=jq hR;have HD:=jq hd;have HZ:=jq gW;have s0:w.cell? ⟨bs,0,none⟩=some (.string s):=by have:=hcs 0 _ rfl;simpa using this
 have s1:w.cell? ⟨bs,1,none⟩=some (.int .i64 ty):=by have:=hcs 1 _ rfl;simpa using this
 have s2:w.cell? ⟨bs,2,none⟩=some (.int .i64 life):=by have:=hcs 2 _ rfl;simpa using this
 have s3:w.cell? ⟨bs,3,none⟩=some v:=by have:=hcs 3 _ rfl;simpa using this
 have g0:w.cell? ⟨bg,0,none⟩=some (.string z):=by have:=sR 0 _ rfl;simpa using this
 have g1:w.cell? ⟨bg,1,none⟩=some (.int .i64 g.key):=by have:=sR 1 _ rfl;simpa using this
 have g2:w.cell? ⟨bg,2,none⟩=some (.int .i64 g.alg):=by have:=sR 2 _ rfl;simpa using this
 have g3:w.cell? ⟨bg,3,none⟩=some (.int .i64 g.frm):=by have:=sR 3 _ rfl;simpa using this
 have g4:w.cell? ⟨bg,4,none⟩=some (.int .i64 g.til):=by have:=sR 4 _ rfl;simpa using this
 have g5:w.cell? ⟨bg,5,none⟩=some (.int .u64 g.sum):=by have:=sR 5 _ rfl;simpa using this
 have lb:=World.block_lt_of_cell? w _ s0;have lg:=World.block_lt_of_cell? w _ g0;simp only at lb lg;obtain⟨A,c,rfl,bi,fD,cp⟩:=hd;clear hR cp hcs sR gW;go_enter func165,ntmps165;go_wp2_with fail;refine (L4 s hs ty life _ ds z hz g.key g.alg g.frm g.til g.sum k.n k.alg _ ?_ ?_).mono ?_
 ·exact (HR.out.keep (iU w _)).more (by simp)
 ·exact (HD.out.keep br (iU w _)).more bB (by simp)
 rintro e w1 ⟨rfl,hb⟩;have HB:=jq hb;clear hb;go_wp2_with fail;go_ret;exact⟨aw (by unfold Np.pE;rw[Fm,Fo HZ.out]),(iU w _).trans (HB.out.mono (by simp))⟩
theorem aAX(bz bt bd bk bs:Nat)(zone:ByteArray)(t d:Int)(ht:0<=t)(ta:t<=10000000)(Gx:0<=d)(fS:d<=1000)(kv:Value)(keys:List Np.Key)(s:ByteArray)(hs:s.size<=140737488355328)(ty life:Int)(v:Value)(ds:List Np.Datum)(g:Np.Sig)(z:ByteArray)(gW:z.data.toList=g.zone)(hz:z.size<=140737488355328)(w:World)(hR:bL w w.heap.size)(hd:SlR bS 3 w w.heap.size v ds)(hk:SlR iS 2 w w.heap.size kv keys)
 (hcs:eB w bs 0 [.string s,.int .i64 ty,.int .i64 life,v]) (cz:w.cell? ⟨bz,0,none⟩=some (.string zone)) (ct:w.cell? ⟨bt,0,none⟩=some (.int .i64 t)) (cd:w.cell? ⟨bd,0,none⟩=some (.int .i64 d)) (ck:w.cell? ⟨bk,0,none⟩=some kv) :
 Calls prog 163 #[.agg #[.string z,.int .i64 g.key,.int .i64 g.alg,.int .i64 g.frm,.int .i64 g.til,.int .u64 g.sum],.pointer (some ⟨bz,0,none⟩),.pointer (some ⟨bt,0,none⟩),.pointer (some ⟨bd,0,none⟩),.pointer (some ⟨bk,0,none⟩),.pointer (some ⟨bs,0,none⟩)] w
  λe w'=>e = .returned (.bool (Np.rC ⟨s.data.toList,ty,life,ds⟩ zone.data.toList keys t d g))/\Below w.heap.size w w':=by
 have HR:=jq hR;have HD:=jq hd;have HK:=jq hk;have HZ:=jq gW;have HS:=jq hcs;have lz:=World.block_lt_of_cell? w _ cz;have lt:=World.block_lt_of_cell? w _ ct;have ld:=World.block_lt_of_cell? w _ cd;have lk:=World.block_lt_of_cell? w _ ck;have ls:=World.block_lt_of_cell? w _ (hcs 0 _ rfl);simp only at lz lt ld lk ls;obtain⟨A,c,rfl,bi,fD,cp⟩:=hd;obtain⟨A2,c2,rfl,dR,i5,cP⟩:=hk;clear hR cp cP hcs gW;go_enter func163,ntmps163;go_wp2_with fail
 ·go_ret;rename_i h1;refine⟨aw ?_,iU w _⟩;rw[dQ,dQ,HZ.out] at h1;simp[Np.rC,h1]
 ·go_ret;rename_i h1 h2;refine⟨aw ?_,iU w _⟩;have h3:¬ g.frm<=t - d:=by omega
  simp[Np.rC,h3]
 ·go_ret;rename_i h1 h2 h3;refine⟨aw ?_,iU w _⟩;have h3:¬ t+d<=g.til:=by omega
  simp[Np.rC,h3]
 ·have h1:z.toList=zone.toList:=by assumption
  have h2:t+d<=g.til:=by assumption
  have h3:g.frm<=t - d:=by assumption
  have sU:Np.rC ⟨s.data.toList,ty,life,ds⟩ zone.data.toList keys t d g=keys.any (Np.pE ⟨s.data.toList,ty,life,ds⟩ g):=by
   rw[dQ,dQ,HZ.out] at h1;simp[Np.rC,h1,h2,h3]
  have HF:=jq sU;clear sU;refine (MD 165 (enters_of func165 (by kernel_rfl) rfl) _ (Np.pE ⟨s.data.toList,ty,life,ds⟩ g) _ keys _ _ (bQ _) ?_ ?_).mono ?_
  ·exact (HK.out.keep ki (iU w _)).more oZ (by simp)
  ·intro W x e hx hW sE oe;obtain rfl:=oe;have nH:Below w.heap.size w W:=(iU w _).trans (hW.mono (by simp));refine aAK bs w.heap.size s hs ty life (.slice A ds.length c) ds g z HZ.out hz x W ?_ ?_ ?_ ?_
   ·exact (HR.out.keep nH).more nH.size
   ·exact (HD.out.keep br nH).more bB nH.size
   ·exact HS.out.keep nH ls
   ·intro j u hj;rw[hW.cell (by simp)]
    match j,hj with
    | 0,hj=>simp at hj;subst hj;go_simp
    | 1,hj=>simp at hj;subst hj;go_simp
    | 2,hj=>simp at hj;subst hj;go_simp
    | 3,hj=>simp at hj;subst hj;go_simp
    | 4,hj=>simp at hj;subst hj;go_simp
    | 5,hj=>simp at hj;subst hj;go_simp
    | j+6,hj=>simp at hj
  ·rintro e w1 ⟨a,b,rfl,hb,_,_⟩;have HB:=jq hb;clear hb;go_wp2_with fail;go_ret;exact⟨aw HF.out.symm,((iU w _).trans (HB.out.mono (by simp))).alloc (by have:=HB.out.size;simp at this;omega) _⟩
theorem Iy(zone:ByteArray)(t d:Int)(kv:Value)(keys:List Np.Key)(s:ByteArray)(hs:s.size<=140737488355328)(ty life:Int)(v u:Value)(ds:List Np.Datum)(gs:List Np.Sig)(w:World)(hR:bL w w.heap.size)(hd:SlR bS 3 w w.heap.size v ds)(hg:SlR dw 6 w w.heap.size u gs)(hk:SlR iS 2 w w.heap.size kv keys) :
 Calls prog 96 #[.agg #[.string s,.int .i64 ty,.int .i64 life,v,u],.string zone,kv,.int .i64 t,.int .i64 d] w
  λe w'=>e = .returned (.bool (Np.e8 ⟨⟨s.data.toList,ty,life,ds⟩,gs⟩ zone.data.toList keys t d))/\Below w.heap.size w w':=by
 have HR:=jq hR;have HD:=jq hd;have HG:=jq hg;have HK:=jq hk;obtain⟨A,c,rfl,bi,fD,cp⟩:=hd;obtain⟨A2,c2,rfl,dR,i5,cP⟩:=hk;obtain⟨A3,c3,rfl,iB,i6,YY⟩:=hg;clear hR cp cP YY;have aI:∀ o1 o2 o3 o4 o5:Obj,Below w.heap.size w (((((w.alloc o1).alloc o2).alloc o3).alloc o4).alloc o5):=λo1 o2 o3 o4 o5=>(((((vQ _ w).alloc (bQ _) _).alloc (by simp) _).alloc (by simp;omega) _).alloc (by simp;omega) _).alloc (by simp;omega) _;have aK:=jq aI;clear aI;by_cases hv:Np.gw t d=true
 ·have HV:=jq hv;have Dm:0<=t/\t<=10000000/\0<=d/\d<=1000:=by simp[Np.gw] at hv;omega
  clear hv;go_enter func96,ntmps96;go_wp2_with fail;refine (IU t d _).mono ?_;rintro e w' ⟨rfl,rfl⟩;rw[HV.out];go_wp2_with fail;refine (Xy 163 (enters_of func163 (by kernel_rfl) rfl) _ (Np.rC ⟨s.data.toList,ty,life,ds⟩ zone.data.toList keys t d) _ gs _ _ (bQ _) ?_ ?_).mono ?_
  ·exact (HG.out.keep cK (aK.out _ _ _ _ _)).more da (by simp;omega)
  ·intro W x e hx hW sE oe;obtain⟨z,bx,cr,rfl⟩:=oe;have nH:Below w.heap.size w W:=(aK.out _ _ _ _ _).trans (hW.mono (by simp;omega));refine aAX (w.heap.size+1) (w.heap.size+1+1+1) (w.heap.size+1+1+1+1) (w.heap.size+1+1) w.heap.size zone t d Dm.1 Dm.2.1 Dm.2.2.1 Dm.2.2.2 (.slice A2 keys.length c2) keys s hs ty life (.slice A ds.length c) ds x z bx cr W ?_ ?_ ?_ ?_ ?_ ?_ ?_ ?_
   ·exact (HR.out.keep nH).more nH.size
   ·exact (HD.out.keep br nH).more bB nH.size
   ·exact (HK.out.keep ki nH).more oZ nH.size
   ·intro j u hj;rw[hW.cell (by simp<;>omega)]
    match j,hj with
    | 0,hj=>simp at hj;subst hj;go_simp
    | 1,hj=>simp at hj;subst hj;go_simp
    | 2,hj=>simp at hj;subst hj;go_simp
    | 3,hj=>simp at hj;subst hj;go_simp
    | j+4,hj=>simp at hj
   ·rw[hW.cell (by simp<;>omega)];go_simp
   ·rw[hW.cell (by simp<;>omega)];go_simp
   ·rw[hW.cell (by simp<;>omega)];go_simp
   ·rw[hW.cell (by simp<;>omega)];go_simp
  ·rintro e w1 ⟨s1,a1,b1,c1,d1,q1,rfl,hb,_,_⟩;have HB:=jq hb;clear hb;go_wp2_with fail;go_ret;exact⟨aw (by simp[Np.e8,HV.out]),((aK.out _ _ _ _ _).trans (HB.out.mono (by simp;omega))).alloc (by have:=HB.out.size;simp at this;omega) _⟩
 ·have HV:=jq (show Np.gw t d=false by simpa using hv);clear hv;go_enter func96,ntmps96;go_wp2_with fail;refine (IU t d _).mono ?_;rintro e w' ⟨rfl,rfl⟩;rw[HV.out];go_wp2_with fail;go_ret;exact⟨aw (by simp[Np.e8,HV.out]),aK.out _ _ _ _ _⟩
end
section
open Go.RowKit
def VE(B:Nat)(w:World)(f:FuncId)(cap:Array Value)(p:Np.Signed->Bool)(xs:List Np.Signed):Prop:=
 ∀ (W:World) (x:Np.Signed) (e:List Value),x∈xs->Below w.heap.size w W->w.heap.size<=W.heap.size->aB W B e x->Calls prog f (#[.agg e.toArray]++cap) W λe w'=>e = .returned (.bool (p x))/\Below W.heap.size W w'
def Ra(B:Nat)(w:World)(p:Np.Signed->Bool)(xs:List Np.Signed)(e:Ending)(w':World):Prop:=
 ∃ (s:ByteArray) (a b:Int) (v u:Value),e = .returned (.tuple #[.agg #[.string s,.int .i64 a,.int .i64 b,v,u],.bool (xs.any p)])/\Below w.heap.size w w'/\(∀ x,xs.find? p=some x->aB w B [.string s,.int .i64 a,.int .i64 b,v,u] x)/\(xs.any p=false->([.string s,.int .i64 a,.int .i64 b,v,u]:List Value) = [.string ⟨#[]⟩,.int .i64 0,.int .i64 0,.slice none 0 0,.slice none 0 0])
theorem ME(f:FuncId)(eg:∀ args w,(callFunc f args).run prog w = .ok (.enter f args) w)(cap:Array Value)(p:Np.Signed->Bool)(v:Value)(xs:List Np.Signed)(w:World)(B:Nat)(hB:B<=w.heap.size)(h:SlR aB 5 w B v xs)
 (hp:VE B w f cap p xs) :
 Calls prog 51 #[v,.func (.func f) #[] cap] w (Ra B w p xs):=by
 have H:=jq h;have HP:=jq hp;obtain⟨A,c,rfl,bi,fD,cp⟩:=h;clear cp hp;go_enter func51,ntmps51;go_wp2_with fail;go_loopw [11] (λi wr=>∃ k:Nat,k<=xs.length/\i = .int .i64 k/\Below (w.heap.size+1) (w.alloc (.cells #[.string ⟨#[]⟩,.int .i64 0,.int .i64 0,.slice none 0 0,.slice none 0 0] 44)) wr/\Hid (∀ x∈xs.take k,p x=false)) (λi _=>xs.length - (intOf i).toNat)
 case atStart=>exact⟨0,jQ _,rfl,vQ _ _,jq (by simp)⟩
 case round=>
  obtain⟨k,hk,rfl,hb,HA⟩:=hrel;have bH:Below w.heap.size w wr:=((vQ _ w).alloc (bQ _) _).trans (hb.aSZ);have au:=hb.size;simp only[World.size_alloc] at au;have dW:=jq hb;have bU:=jq bH;clear hb bH;by_cases af:k<xs.length
  ·have eU:=bU.out.mono hB;obtain⟨A',c',hA',_,_,dH⟩:=H.out.keep az eU
   cases hA'
   obtain⟨b,o,e,rfl,dB,hlen,hce,hR⟩:=dH k _ (aQ af);obtain⟨_,_,jU,_,_,sS⟩:=H.out
   cases jU
   obtain⟨b0,o0,e',cF,NT,zS,sP,kM⟩:=sS k _ (aQ af)
   cases cF
   have nA:e'=e:=by
    refine List.ext_getElem? λj=>?_;rcases Nat.lt_or_ge j 5 with hj | hj
    ·have h1:=hce j _ (aQ (by omega));have h2:=sP j _ (aQ (by omega));rw[eU.cell (by exact dB),h2] at h1;rw[aQ (by omega),aQ (by omega)];exact h1
    ·rw[List.getElem?_eq_none (by omega),List.getElem?_eq_none (by omega)]
   subst nA;have iu:=jq kM;clear sS sP kM zS;have hR':=hR;obtain⟨sz,vd,vs,oJ,i8,s8,eX,rfl⟩:=hR';obtain⟨dA,dn,dc,rfl,_,_,_⟩:=aM s8;obtain⟨gA,gn,gc,rfl,_,_,_⟩:=aM eX;have E1:=jq oJ;clear oJ s8 eX;have h0:wr.cell? ⟨b,o+k * 5,none⟩=some (.string sz):=hce 0 _ rfl;have h1:wr.cell? ⟨b,o+k * 5+1,none⟩=some (.int .i64 xs[k].set.type):=hce 1 _ rfl;have h2:wr.cell? ⟨b,o+k * 5+2,none⟩=some (.int .i64 xs[k].set.life):=hce 2 _ rfl;have h3:wr.cell? ⟨b,o+k * 5+3,none⟩=some (.slice dA dn dc):=hce 3 _ rfl;have h4:wr.cell? ⟨b,o+k * 5+4,none⟩=some (.slice gA gn gc):=hce 4 _ rfl;have cO:=λo=>HP.out (wr.alloc o) xs[k] _ (List.getElem_mem af) (bU.out.alloc (by omega) _) (by simp;omega) (az _ _ _ _ _ hR ((vQ _ wr).alloc (by omega) _));have HC:=jq cO;clear dH hce hR cO eU;go_wp2_with (fail);refine (HC.out _).mono ?_;rintro e w2 ⟨rfl,ag⟩;obtain⟨c2,f2⟩:=dd ag;have eN:=ag.size;simp only[World.size_alloc] at eN;have ai:Below (w.heap.size+1) (w.alloc (.cells #[.string ⟨#[]⟩,.int .i64 0,.int .i64 0,.slice none 0 0,.slice none 0 0] 44)) w2:=(dW.out.alloc au _).trans (ag.mono (by simp;omega));by_cases bw:p xs[k]=true
   ·have HX:=jq bw;have d0:w2.cell? ⟨wr.heap.size,0,none⟩=some (.string sz):=by rw[c2 _ _ (by simp)];go_simp
    have d1:w2.cell? ⟨wr.heap.size,1,none⟩=some (.int .i64 xs[k].set.type):=by rw[c2 _ _ (by simp)];go_simp
    have d2:w2.cell? ⟨wr.heap.size,2,none⟩=some (.int .i64 xs[k].set.life):=by rw[c2 _ _ (by simp)];go_simp
    have d3:w2.cell? ⟨wr.heap.size,3,none⟩=some (.slice dA dn dc):=by rw[c2 _ _ (by simp)];go_simp
    have d4:w2.cell? ⟨wr.heap.size,4,none⟩=some (.slice gA gn gc):=by rw[c2 _ _ (by simp)];go_simp
    obtain⟨c3,f3⟩:=dd (ai.mono (by simp));have am:=jq ai;clear c2 f2 ag ai;go_wp2_with (fail);refine bodyPost_ret (v:=.tuple #[.agg #[.string sz,.int .i64 xs[k].set.type,.int .i64 xs[k].set.life,.slice dA dn dc,.slice gA gn gc],.bool true]) (by simp[results,results51,go_sem,c3]) rfl ⟨sz,xs[k].set.type,xs[k].set.life,.slice dA dn dc,.slice gA gn gc,?_,?_,λx hx=>?_,λhx=>?_⟩
    ·rw[show xs.any p=true from List.any_eq_true.2 ⟨_,List.getElem_mem af,HX.out⟩]
    ·have bH:Below w.heap.size w w2:=((vQ _ w).alloc (bQ _) _).trans (am.out.aSZ)
     repeat refine Below.setCell ?_ (by simp) _
     exact bH
    ·have:=yW p xs k af HA.out HX.out
     rw[this] at hx
     cases hx
     exact iu.out
    ·rw[show xs.any p=true from List.any_eq_true.2 ⟨_,List.getElem_mem af,HX.out⟩] at hx;cases hx
   ·have pW:p xs[k]=false:=by simpa using bw
    have HX:=jq pW;have am:=jq ai;clear bw c2 f2 ag ai;go_wp2_with (fail);go_roundw
    case rel=>
     refine⟨k+1,by omega,by go_num,am.out,jq ?_⟩;rw[fQ af];intro x hx;rcases List.mem_append.1 hx with h | h
     ·exact HA.out x h
     ·simp at h;subst h;exact HX.out
    case measure=>simp[intOf]<;>omega
  ·obtain⟨c3,f3⟩:=dd (dW.out.mono (by simp));have bX:∀ x∈xs,p x=false:=by have:=HA.out;rwa [kQ (by omega)] at this
   have HN:=jq bX;have l0:w.heap.size<wr.heap.size:=by omega
   clear bX;go_wp2_with fail;refine bodyPost_ret (v:=.tuple #[.agg #[.string ⟨#[]⟩,.int .i64 0,.int .i64 0,.slice none 0 0,.slice none 0 0],.bool false]) (by simp[results,results51,go_sem,c3,l0]) rfl ⟨⟨#[]⟩,0,0,.slice none 0 0,.slice none 0 0,?_,?_,λx hx=>?_,λ_=>rfl⟩
   ·rw[show xs.any p=false from List.any_eq_false.2 (λx hx=>by simp[HN.out x hx])]
   ·refine Below.alloc ?_ (by simp;omega) _
    repeat refine Below.setCell ?_ (by simp) _
    exact bU.out
   ·have:=List.find?_some hx
    rw[HN.out x (List.mem_of_find?_eq_some hx)] at this
    cases this
end
end Go.Proofs.YtadhigmjilijcaaGreatDoor
