/- Parts of the proof. No condition. -/
import Derived.Test.YtfnopgdcaanaiaaGreatDoorM20
import Derived.Test.YtfnopgdcaanaiaaGreatDoorM28
set_option linter.all false
set_option maxRecDepth 100000
set_option maxHeartbeats 8000000
namespace Go.Proofs.YtfnopgdcaanaiaaGreatDoor
open Go.Proofs.Tryz
section
open Go.RowKit Go.Shelf Go.MapKept
attribute [local go_sem] Oper.semAt_some HC.cells
def yb(x:Np.Held):List UInt8×List UInt8:=(x.zone,Np.dE x.signed)
def tks(pre:List (HC×Np.Held)):List (List UInt8×List UInt8):=Np.cj (pre.map λx=>yb x.2)
theorem aPZ{pre:List (HC×Np.Held)}{x:HC×Np.Held} : tks (pre ++ [x])=Np.gS (tks pre) (yb x.2):=by
 unfold tks;rw[List.map_append,List.map_singleton,Np.tt]
theorem aPQ{L:List (HC×Np.Held)}{l:List Np.Held}{t:Int}(hL:L.map (·.2)=l)(hP:∀ x∈L,Np.Plain47 x.2.signed){z:List UInt8}{s:Np.Signed}(hs:Np.Plain47 s):decide ((z,Np.dE s)∈tks (L.filter λx=>Np.uX x.2.spans t))=Np.pp l z s t:=by
 unfold tks;rw[Bool.eq_iff_iff,Qa,Np.th,List.mem_map];unfold Np.pp;rw[List.any_eq_true];constructor
 ·rintro⟨x,hx,he⟩;obtain⟨hx,ht⟩:=List.mem_filter.1 hx;unfold yb at he;rw[Prod.mk.injEq] at he;refine⟨x.2,by rw[<-hL];exact List.mem_map.2 ⟨x,hx,rfl⟩,?_⟩;rw[Bool.and_eq_true,Bool.and_eq_true,Qa,Qa];exact⟨he.1,Np.Fo (hP x hx) hs he.2,ht⟩
 ·rintro⟨y,hy,he⟩;rw[<-hL] at hy;obtain⟨x,hx,rfl⟩:=List.mem_map.1 hy;rw[Bool.and_eq_true,Bool.and_eq_true,Qa,Qa] at he;exact⟨x,List.mem_filter.2 ⟨hx,he.2.2⟩,by unfold yb;rw[he.1,he.2.1]⟩
def kvT(ks:List (List UInt8×List UInt8)):List ((List UInt8×List UInt8)×Value):=ks.map λy=>(y,Value.bool true)
theorem Q9{ks:List (List UInt8×List UInt8)}{p:List UInt8×List UInt8} : (if (kvT ks).lookup p=none then kvT ks ++ [(p,.bool true)] else kvT ks)=kvT (Np.gS ks p)/\((kvT ks).lookup p=none\/(kvT ks).lookup p=some (.bool true)):=by
 unfold kvT;by_cases h:p∈ks
 ·have h1:=CU ks p;rw[uQ h] at h1;have h2:(ks.map λy=>(y,Value.bool true)).lookup p=some (.bool true):=by
   cases h3:(ks.map λy=>(y,Value.bool true)).lookup p with
   | none=>rw[h3] at h1;simp at h1
   | some v=>rw[h3] at h1;simp at h1;rw[h1]
  rw[h2,Np.yO h];exact⟨Qc (λh=>nomatch h),.inr rfl⟩
 ·have h1:=Fu ks p h;rw[h1,Qb rfl,Np.gS,Qc h,List.map_append];exact⟨rfl,.inl rfl⟩
theorem VH{l:List Np.Held}{t:Int}{c:List Np.Ent22}{k:Nat}{x:Np.Ent22}(hx:c[k]?=some x)(h:∀ e∈c.take k,Np.iu l t e=true)(h1:Np.iu l t x=true):∀ e∈c.take (k+1),Np.iu l t e=true:=λy hy=>by
 obtain⟨hl,he⟩:=cQ.1 hx;rw[fQ hl,he] at hy;rcases List.mem_append.1 hy with hy | hy
 ·exact h y hy
 ·rw[List.mem_singleton] at hy;subst hy;exact h1
theorem VF{l:List Np.Held}{t:Int}{c:List Np.Ent22}{k:Nat}{x:Np.Ent22}(hx:c[k]?=some x)(h1:Np.iu l t x=false):Np.rc l c t=false:=by
 unfold Np.rc;rw[List.all_eq_false];exact⟨x,gQ hx,by rw[h1];decide⟩
def Ga(w6:World)(Mb:Nat)(pre:List (HC×Np.Held))(S:Nat->Prop)(W:World):Prop:=
 (∀ k,S k↔k=Mb)/\jn Mb (kvT (tks pre)) W/\RdStep (λk=>k=Mb) w6 W
theorem NJ(w6:World)(Mb:Nat):gp w6.heap.size (Ga w6 Mb):=by
 rintro pre S W W' ⟨hS,h1,h4⟩ aB;exact⟨hS,h1.keep' (aB.keep Mb h1.lt (.inr ((hS _).2 rfl))),⟨aB.os.trans h4.os,aB.tape.trans h4.tape,aB.output.trans h4.output,yQ h4.size aB.size,λk hk nV=>(aB.keep k (lQ hk h4.size) (.inl hk)).trans (h4.keep k hk nV)⟩⟩
theorem Df{ops:Array Oper}{tmps:Array Value}{j d:Nat}(hd:(ops[j]?).bind (·.dst)=some d):yielded ops tmps j=(match tmps[d]?.getD undef with | .bool b=>some b | _=>none):=by
 unfold yielded;rw[hd];show (match tmps[d]? with | some (.bool b)=>some b | _=>none)=_
 cases tmps[d]? with
 | none=>rfl
 | some v=>cases v <;> rfl
def sE(E Mb:Nat)(xz xs:ByteArray)(xty xlf:Int)(dA:Option Addr)(dn dc:Nat)(gA:Option Addr)(gn gc:Nat)(e5:Value)(i:Nat):Value:=[.map (some Mb),.pointer (some ⟨E,0,none⟩),.string xz,.pointer (some ⟨E,1,none⟩),.agg #[.string xs,.int .i64 xty,.int .i64 xlf,.slice dA dn dc,.slice gA gn gc],e5,.agg #[.string xz,e5],undef].getD i undef
def rp(i:Nat):Nat:=[43,44,45,46,47,48,49,0].getD i 0
def Ye:List Nat:=[0,1,2,3,4,6,5].map rp
theorem EE:∀ i∈[0,1,2,3,4,6,5],rp i<81/\rp i∈Ye:=by decide
theorem Jp:∀ i∈[0,1,2,3,4,6,5],∀ j∈[0,1,2,3,4,6,5],j≠i->rp i≠rp j:=by decide
def ro(E Mb:Nat)(ez zs:ByteArray)(ety elf til t:Int)(b:Bool)(dA:Option Addr)(dn dc:Nat)(gA:Option Addr)(gn gc:Nat)(e18:Value)(i:Nat):Value:=[.pointer (some ⟨E,0,none⟩),.pointer (some ⟨E,0,none⟩),.pointer (some ⟨E,3,none⟩),.slice dA dn dc,.int .i64 (dn:Nat),.bool true,.bool true,.pointer (some ⟨E,6,none⟩),.int .i64 til,.int .i64 t,.bool true,.bool true,.bool true,.map (some Mb),.pointer (some ⟨E,5,none⟩),.string ez,.pointer (some ⟨E,0,none⟩),.agg #[.string zs,.int .i64 ety,.int .i64 elf,.slice dA dn dc,.slice gA gn gc],e18,.agg #[.string ez,e18],.bool b,.bool (!b),undef].getD i undef
def qc(i:Nat):Nat:=[57,58,59,60,61,62,63,64,65,66,67,68,69,70,71,72,73,74,75,76,77,78,79].getD i 0
def Yd:List Nat:=[0,1,2,3,4,5,6,7,8,9,10,11,12,13,14,15,16,17,19,20,21,18].map qc
theorem ED:∀ i∈[0,1,2,3,4,5,6,7,8,9,10,11,12,13,14,15,16,17,19,20,21,18],qc i<81/\qc i∈Yd:=by decide
theorem Jo:∀ i∈[0,1,2,3,4,5,6,7,8,9,10,11,12,13,14,15,16,17,19,20,21,18],∀ j∈[0,1,2,3,4,5,6,7,8,9,10,11,12,13,14,15,16,17,19,20,21,18],j≠i->qc i≠qc j:=by decide
theorem V5(e:List Value)(h:Np.Hist)(v:Value)(l:List Np.Ent22)(t:Int)(w:World)(hV:jF w.heap.size w)(k:iW w e h)(hd:SlR lE 7 w w.heap.size v l)(CF:Np.IF l) :
 Calls prog 30 #[.agg e.toArray,.agg #[v],.int .i64 t] w λe w'=>e = .returned (.tuple #[.bool (Np.pX h l t).2,.int .i64 (Np.pX h l t).1])/\Below w.heap.size w w':=by
 obtain⟨A1,n1,c1,A2,n2,c2,s,ty0,lf,A3,n3,c3,A4,n4,c4,dr,st,rfl,-,-,-,-,-⟩:=tm k.rh;have iB:=jq hd;obtain⟨cA,ck,rfl,_,_⟩:=ak hd;obtain⟨cn,ma⟩:=acJ l.length;rw[ma] at iB |-;have vt:=jq ma;have sk:=jq CF;obtain⟨X,hX⟩:=acJ w.heap.size;obtain⟨px,ba⟩:=acJ (Np.pX h l t);rw[ba];have gw:=jq ba;obtain⟨w1,ah⟩:=acJ ((w.alloc (.cells #[.slice A1 n1 c1,.slice A2 n2 c2,.string s,.int .i64 ty0,.int .i64 lf,.slice A3 n3 c3,.slice A4 n4 c4,.int .i64 dr,.int .i64 st] 29)).alloc (.cells #[.slice cA cn ck] 76));have bd:w1.heap.size=X+2:=by rw[<-ah,<-hX];simp
 have hb:Below w.heap.size w w1:=by rw[<-ah];exact ((vQ _ _).alloc (bQ _) _).alloc (by simp) _
 have av:=jq hb;have fN:=jq (hV.next hb);have fM:=jq (k.keep hb);have az:Hid (ls w1 X [.slice A1 n1 c1,.slice A2 n2 c2,.string s,.int .i64 ty0,.int .i64 lf,.slice A3 n3 c3,.slice A4 n4 c4,.int .i64 dr,.int .i64 st]):=jq (by
  rw[<-ah,<-hX];exact (iq [.slice A1 n1 c1,.slice A2 n2 c2,.string s,.int .i64 ty0,.int .i64 lf,.slice A3 n3 c3,.slice A4 n4 c4,.int .i64 dr,.int .i64 st] 29 rfl rfl).keep ((vQ _ _).alloc (bQ _) _) (by simp))
 have q0:w1.cell? ⟨X+1,0,none⟩=some (.slice cA cn ck):=by rw[<-ah,<-hX];simp[go_sem]
 have iF:=jq q0;clear hb hV k ba hd CF ma;have k0:=az.out 0 _ rfl;have k1:=az.out 1 _ rfl;have k2:=az.out 2 _ rfl;have k3:=az.out 3 _ rfl;have k4:=az.out 4 _ rfl;have k5:=az.out 5 _ rfl;have k6:=az.out 6 _ rfl;have k7:=az.out 7 _ rfl;have k8:=az.out 8 _ rfl;refine (callsIn_wide (n:=0)).1 ?_;refine callsIn_of_wp_marks func30 rfl trivial ?_ rfl;simp only[ntmps30,List.size_toArray,List.length_cons,List.length_nil,Nat.reduceAdd,Nat.reduceSub,Array.replicate_succ,Array.replicate_zero,List.push_toArray,List.append_toArray,List.nil_append,List.cons_append];gi_wp2_with fail;clear ah;refine⟨trivial,rfl,?_⟩;refine (callsIn_wide.2 (NZ _ h w1 fN.out fM.out)).mono ?_;rintro e w2 ⟨rfl,hb⟩;have aN:=hb.size;have ai:=acZ av hb;have iH:=jq (fN.out.next hb);have iV:=jq (fM.out.keep hb);have aZ:=jq (az.out.keep hb (by omega));replace q0:=aaJ hb q0;have kc:=jq hb;clear hb k0 k1 k2 k3 k4 k5 k6 k7 k8;by_cases cK:Np.VHist h
 case neg=>
  rw[Np.aF cK];have HN:=jq cK;clear cK;have eJ:Hid (px=((1:Int),false)):=jq (by rw[<-gw.out];exact Np.wg (λk=>HN.out k.1));gi_wp2_with fail;refine⟨trivial,?_⟩;gi_wp2_with fail;refine kV (v:=.tuple #[.bool false,.int .i64 1]) (by simp[results,results30,go_sem]) ?_;rw[eJ.out];exact⟨rfl,ai.out⟩
 case pos=>
  rw[Np.bh cK];have fu:=jq cK;clear cK;gi_wp2_with fail;refine⟨trivial,rfl,?_⟩;refine (callsIn_wide.2 (WS _ l w2 iH.out.rules ((iB.out.keep mq ai.out).more uV ai.out.size))).mono ?_;rintro e w3 ⟨rfl,hb⟩;have eR:=hb.size;have ar:=acZ ai hb;have lA:=jq (iH.out.next hb);have oF:=jq (iV.out.keep hb);have bi:=jq (aZ.out.keep hb (by omega));have ng:=acZ kc hb;clear hb q0;by_cases hQ:Np.VCache l
  case neg=>
   rw[Np.aF hQ];have HN:=jq hQ;clear hQ;have eJ:Hid (px=((1:Int),false)):=jq (by rw[<-gw.out];exact Np.wg (λk=>HN.out k.2.1));gi_wp2_with fail;refine kV (v:=.tuple #[.bool false,.int .i64 1]) (by simp[results,results30,go_sem]) ?_;rw[eJ.out];exact⟨rfl,ar.out⟩
  case pos=>
   rw[Np.bh hQ];have vP:=jq hQ;clear hQ;by_cases qr:t<0
   ·have nN:decide (t<0)=true:=uQ qr;have HN:=jq qr;clear qr;have eJ:Hid (px=((1:Int),false)):=jq (by rw[<-gw.out];exact Np.wg (λk=>by have:=k.2.2.1;have:=HN.out;omega));gi_wp2_with fail;refine kV (v:=.tuple #[.bool false,.int .i64 1]) (by simp[results,results30,go_sem]) ?_;rw[eJ.out];exact⟨rfl,ar.out⟩
   ·have nN:decide (t<0)=false:=tQ qr;by_cases qs:20000000<t
    ·have gu:decide (20000000<t)=true:=uQ qs;have HN:=jq qs;clear qs;have eJ:Hid (px=((1:Int),false)):=jq (by rw[<-gw.out];exact Np.wg (λk=>by have:=k.2.2.2;have:=HN.out;omega));gi_wp2_with fail;refine kV (v:=.tuple #[.bool false,.int .i64 1]) (by simp[results,results30,go_sem]) ?_;rw[eJ.out];exact⟨rfl,ar.out⟩
    ·have gu:decide (20000000<t)=false:=tQ qs;have bH:Hid (Np.Dg h l t):=jq ⟨fu.out,vP.out,by omega,by omega⟩;have jB:Hid (px=((0:Int),Np.rc (Np.bp h) l t)):=jq (by rw[<-gw.out];exact Np.NM bH.out);clear qr qs;have k0:=bi.out 0 _ rfl;have k1:=bi.out 1 _ rfl;have k2:=bi.out 2 _ rfl;have k3:=bi.out 3 _ rfl;have k4:=bi.out 4 _ rfl;have k5:=bi.out 5 _ rfl;have k6:=bi.out 6 _ rfl;have k7:=bi.out 7 _ rfl;have k8:=bi.out 8 _ rfl;gi_wp2_with fail;refine⟨trivial,rfl,?_⟩;refine (callsIn_wide.2 (Br _ h w3 lA.out oF.out)).mono ?_;rw[Np.we fu.out];rintro e w4 ⟨Aa,na,ca,rfl,jO,qp,hb⟩;have fl:=hb.size;have aU:=acZ ar hb;have tA:=acZ ng hb;have lw:=jq (lA.out.next hb).pow;have qX:Hid (SlR db 8 w4 w4.heap.size (.slice Aa na ca) (Np.bp h)):=jq (qp.all fp);have ql:(Np.bp h).length=na:=jO;have P8:na<=2100:=by rw[<-ql];unfold Np.bp;rw[List.length_map];exact fM.out.use.pubAll
     have r9:=jq ql;clear hb qp jO ql k0 k1 k2 k3 k4 k5 k6 k7 k8 nN gu;obtain⟨Mb,rm⟩:=acJ w4.heap.size;have mf:∀ (w:World),(Instr.makeMap 136 none).run prog w = .ok (.map (some w.heap.size)) (w.alloc (.map #[] 0)):=λw=>by
      simp[Instr.makeMap,Result.andThen]
     obtain⟨w5,aX⟩:=acJ ((w4.alloc (.map #[] 0)).alloc (.cells #[.map (some Mb)] 136));have ik:w5.heap.size=Mb+2:=by rw[<-aX,<-rm];simp
     have aH:Below w4.heap.size w4 w5:=by rw[<-aX];exact ((vQ _ _).alloc (bQ _) _).alloc (by simp) _
     have qQ:Hid (jn Mb [] w5):=jq (by
      rw[<-aX,<-rm];exact (jn.made w4).keep ((vQ _ _).alloc (bQ _) _) (by simp))
     have Iu:Hid (Boxed w5 (Mb+1) 136 (.map (some Mb))):=jq (by
      rw[<-aX,<-rm]
      have:=(Boxed.new (w4.alloc (.map #[] 0)) 136 (.map (some w4.heap.size)))
      simpa using this)
     have bN:=acZ aU aH;have yi:=acZ tA aH;have qE:=jq aH;clear aH;gi_wp2_with fail;clear mf;refine⟨trivial,rfl,?_⟩;refine (callsIn_wide.2 (O9 _ Aa na ca rfl t w5)).mono ?_;rintro e w6 ⟨rfl,ct⟩;have iy:w6.heap.size=Mb+4:=by rw[ct];simp;omega
     have aW:Below w5.heap.size w5 w6:=by rw[ct];exact ((vQ _ _).alloc (bQ _) _).alloc (by simp) _
     have kX:w6.cell? ⟨Mb+2,0,none⟩=some (.slice Aa na ca):=by rw[ct,<-ik];simp[go_sem]
     have kT:w6.cell? ⟨Mb+2+1,0,none⟩=some (.int .i64 t):=by rw[ct,show Mb+2+1=w5.heap.size+1 by omega];simp[go_sem]
     rw[ik];have tB:=acZ qE aW;obtain⟨L,iM,l5,p9⟩:=Pp (qX.out.keep eY tB.out);have AC:Hid (∀ x∈L,vu w6 w4.heap.size x.1 x.2):=jq (λx hx=>by
      obtain⟨i,hi⟩:=List.mem_iff_getElem?.1 hx;exact (p9 i x hi).1)
     have AD:Hid (∀ x∈L,KeyS x.2.signed/\Np.Plain47 x.2.signed):=jq (λx hx=>Np.NI fu.out fM.out.sums (by rw[<-iM];exact List.mem_map.2 ⟨x,hx,rfl⟩));have vH:=jq (Pa L t (Mb+2) (Mb+2+1) na ca (λk=>k<w6.heap.size/\¬ k=Mb) Aa w6 ⟨by omega,by omega⟩ ⟨by omega,by omega⟩ kX kT l5 (by omega)
      (λi x hx=>by
        obtain⟨_,b,o,h1,h2,h3⟩:=p9 i x hx;exact⟨b,o,h1,⟨by omega,by omega⟩,h3⟩)
      (λx hx W hW=>by
        have h1:=(AC.out x hx).spans;have aI:Below w4.heap.size w6 ({ w6 with heap:=W.heap } : World):=⟨rfl,rfl,rfl,hW.1,λk hk=>(hW.2 k ⟨by omega,by omega⟩).2⟩;have h2:=(h1.keep eE aI).more jk (show w4.heap.size<=W.heap.size by have:=hW.1;omega);exact St h2 rfl))
     have AF:Hid (jn Mb (kvT (tks [])) w6):=jq (qQ.out.keep aW (by omega));have DM:=jq (a0J Iu.out aW);have dl:=acZ bN aW;have Di:=acZ yi aW;have nr:=jq iM;have yu:=jq l5;have oK:=jq (lw.out.keep tB.out);have AK:Hid (1<Mb):=jq (by rw[<-rm];exact lw.out.lt);clear aW ct aX kX kT iM p9 l5;gi_wp2_with fail;refine F7 (Dr:=λk=>k<w6.heap.size/\¬ k=Mb) (w0:=w6) (first:=#[]) (captured:=#[.pointer (some ⟨Mb+2,0,none⟩),.pointer (some ⟨Mb+2+1,0,none⟩)]) (gf:=127) rfl Ox (mk:=λy=>#[y,.pointer (some ⟨Mb+2,0,none⟩),.pointer (some ⟨Mb+2+1,0,none⟩)]) (λ_=>rfl)
      vH.out (fe.refl λk e=>e.1) (λ_=>rfl) (Ga w6 Mb) (λ_ _ _ _=>False)
      (NJ _ _) (λc s S W W' h _=>h)
      (λk=>k=Mb) (λk h1 h2=>h2.2 h1) (by intro k h;omega)
      ⟨λk=>Iff.rfl,AF.out,RdStep.refl _ _⟩ ?round ?done ?stop
     case stop=>
      rintro D c pre S W hD gW bE gI h hK;exact h.elim
     case done=>
      rintro D S W hD gW bE ⟨hS,hms,aM⟩ hK;have MA:Hid (∀ (z:List UInt8) (s:Np.Signed),Np.Plain47 s->decide ((z,Np.dE s)∈tks (L.filter λx=>Np.uX x.2.spans t))=Np.pp (Np.bp h) z s t):=jq (λz s hs=>aPQ nr.out (λx hx=>(AD.out x hx).2) hs);obtain⟨ks,kA⟩:=acJ (tks (L.filter λx=>Np.uX x.2.spans t));rw[kA] at hms MA;have sD:=aM.size;have An:Hid (D<W.heap.size):=jq (eQ.1 hK).1;have DO:X+2<=Mb:=by omega
      have pZ:Below Mb w6 W:=aM.below (by omega) (λk e=>by omega);have ym:Hid (Below X w W):=jq ((show Below X w w6 by rw[<-hX];exact dl.out).trans (pZ.adZ));have Vg:Hid (Boxed W (Mb+1) 136 (.map (some Mb))):=jq (DZ DM.out aM (by omega));have Ur:=jq hms;have AA:=jq hK;have q0:W.cell? ⟨X+1,0,none⟩=some (.slice cA cn ck):=aaJ pZ ((cl Di.out (by omega)).trans iF.out);have lz:Hid (go W):=jq (oK.out.keepAt pZ AK.out);have Am:Hid (SlR lE 7 W X (.slice cA cn ck) l):=jq (by have:=iB.out;rw[hX] at this;exact this.keep mq ym.out);have hMW:Mb+1<W.heap.size:=by omega
      have kK:Hid (X<=D):=jq (by omega);have YB:cn<=400:=by rw[<-vt.out];exact vP.out.few
      clear hS hms aM hK kA pZ;gi_wp2_with fail;refine wpIn_wide.2 ?_;go_loopw [53] (λi wr=>∃ k:Nat,k<=cn/\i = .int .i64 k/\Hid (Below W.heap.size W wr)/\Hid (∀ e∈l.take k,Np.iu (Np.bp h) t e=true)) (λi _=>cn - (intOf i).toNat)
      case atStart=>exact⟨0,jQ _,rfl,jq (vQ _ _),jq (by simp)⟩
      case round=>
       obtain⟨k,hk,rfl,HB,HG⟩:=hrel;have an:=HB.out.size;by_cases ab:k<cn
       case neg=>
        have HF:Hid (px=((0:Int),true)):=jq (by
         rw[jB.out];have h1:=HG.out;rw[kQ (by rw[vt.out];omega)] at h1;unfold Np.rc;rw[List.all_eq_true.2 h1])
        have Jf:wr.heap[D]?=some (.deferred (some [])):=(HB.out.block D An.out).trans AA.out;have qF:Hid (Below X w wr):=acZ ym HB.out;go_wp2_with fail;gi_wp2_with fail;refine nJ Jf (v:=.tuple #[.bool true,.int .i64 0]) (by simp[results,results30,go_sem]) ?_;rw[HF.out];exact⟨rfl,by rw[hX];exact mA qF.out kK.out _⟩
       case pos=>
        obtain⟨x,aa⟩:∃ x,l[k]?=some x:=⟨_,aQ (by rw[vt.out];exact ab)⟩;obtain⟨b,o,zs,ez,dA,dn,dc,gA,gn,gc,rfl,bB,aw,eW,fV,gL,aK,nS,ku,nR,hce⟩:=yU (Am.out.keep mq (HB.out.adZ)) aa;have MK:=jq (vP.out.each x (gQ aa));have Na:=jq (sk.out x (gQ aa));have vT:=jq (λh1=>VH (l:=Np.bp h) (t:=t) aa HG.out h1);have Hk:=jq (λh1=>VF (l:=Np.bp h) (t:=t) aa h1);have f0:=hce 0 _ rfl;have f1:=hce 1 _ rfl;have f2:=hce 2 _ rfl;have f3:=hce 3 _ rfl;have f4:=hce 4 _ rfl;have f5:=hce 5 _ rfl;have f6:=hce 6 _ rfl;simp only[Nat.add_zero] at f0;have tL:=jq (And.intro aw fV);have im:=jq aK;have nk:=jq nS;have Ma:=jq ku;have bJ:(0:Int)<=(k:Int):=by omega
        have bI:(k:Int)<(cn:Int):=by omega
        obtain⟨ety,dT⟩:=acJ x.signed.set.type;obtain⟨elf,iw⟩:=acJ x.signed.set.life;obtain⟨til,mO⟩:=acJ x.til;have dF:=jq (And.intro dT (And.intro iw mO));rw[dT] at f1;rw[iw] at f2;rw[mO] at f6;obtain⟨E,hE⟩:=acJ wr.heap.size;obtain⟨w7,eX⟩:=acJ (wr.alloc (.cells #[.string zs,.int .i64 ety,.int .i64 elf,.slice dA dn dc,.slice gA gn gc,.string ez,.int .i64 til] 83));have dO:Below wr.heap.size wr w7:=by rw[<-eX];exact (vQ _ _).alloc (bQ _) _
        have mR:w7.heap.size=E+1:=by rw[<-eX,<-hE];simp
        have ej:=jq (iq _ _ hE eX);have cD:=acZ HB dO;have vr:=jq dO;have HWs:=an;have q0:=ej.out 0 _ rfl;have q1:=ej.out 1 _ rfl;have q2:=ej.out 2 _ rfl;have q3:=ej.out 3 _ rfl;have q4:=ej.out 4 _ rfl;have q5:=ej.out 5 _ rfl;have q6:=ej.out 6 _ rfl;clear aa aw eW fV gL aK nS ku nR hce dT iw mO dO;by_cases wJ:dn=0
        case pos=>
         subst wJ;have qH:Hid (Np.iu (Np.bp h) t x=true):=jq (by
          unfold Np.iu;rw[rQ Ma.out];rfl)
         have bC:=jq (vT.out qH.out);go_wp2_with fail
         try rw[eX]
         clear eX f0 f1 f2 f3 f4 f5 f6;go_quiet (fail);go_wp2_with fail;go_roundw
         case rel=>exact⟨k+1,by omega,by go_num,jq (below_drewN cD.out _),bC⟩
         case measure=>simp[intOf] <;> omega
        case neg=>
         have lJ:decide ((0:Int)<(dn:Int))=true:=adK;have JN:0<dn:=by omega
         have pL:Hid (x.signed.set.data≠[]):=jq (λh=>wJ (by rw[<-Ma.out,h];rfl));clear wJ;by_cases pi:til<=t
         case pos=>
          have jV:decide (t<til)=false:=adJ;have qH:Hid (Np.iu (Np.bp h) t x=true):=jq (by
           unfold Np.iu;rw[dF.out.2.2,uQ pi];simp)
          have bC:=jq (vT.out qH.out);clear pi;go_wp2_with fail
          try rw[eX]
          clear eX f0 f1 f2 f3 f4 f5 f6;go_quiet (fail);go_wp2_with fail;go_roundw
          case rel=>exact⟨k+1,by omega,by go_num,jq (below_drewN cD.out _),bC⟩
          case measure=>simp[intOf] <;> omega
         case neg=>
          have jV:decide (t<til)=true:=adK;have Ax:=jq (Np.WZ MK.out pL.out Na.out);have kh:=jq (Np.W7 MK.out pL.out Na.out);obtain⟨b,dP⟩:=acJ (Np.pp (Np.bp h) x.zone x.signed t);have fX:=jq dP;have qI:Hid (Np.iu (Np.bp h) t x=b):=jq (by
           unfold Np.iu;rw[dF.out.2.2,tQ pi,dP]
           cases hdd:x.signed.set.data with
           | nil=>exact absurd hdd pL.out
           | cons=>rfl)
          have kg:Hid (decide ((ez.data.toList,Np.dE x.signed)∈ks)=b):=jq (by rw[tL.out.2,MA.out _ _ kh.out];exact dP);have M7:Hid ((⟨⟨zs.data.toList,ety,elf,x.signed.set.data⟩,x.signed.sigs⟩:Np.Signed)=x.signed):=jq (by rw[tL.out.1,<-dF.out.1,<-dF.out.2.1]);obtain⟨key,mI⟩:=acJ (Np.dE x.signed);rw[mI] at kg;have no:=jq mI;clear pi dP mI;go_wp2_with fail
          try rw[eX]
          clear eX f0 f1 f2 f3 f4 f5 f6;have cL:Below w7.heap.size w7 w7.drew:=(vQ _ _).drew;obtain⟨w8,eB⟩:=acJ w7.drew;rw[eB] at cL;have n7:w8.heap.size=w7.heap.size:=by rw[<-eB];rfl
          have Ai:Hid (Below wr.heap.size wr w8):=acZ vr cL;have cH:=jq (ej.out.keep cL (by omega));have A7:Hid (Boxed w8 (Mb+1) 136 (.map (some Mb))):=jq (cU (a0J Vg.out HB.out) Ai.out (by omega));clear q0 q1 q2 q3 q4 q5 q6 cL;have q0:=cH.out 0 _ rfl;have q1:=cH.out 1 _ rfl;have q2:=cH.out 2 _ rfl;have q3:=cH.out 3 _ rfl;have q4:=cH.out 4 _ rfl;have q5:=cH.out 5 _ rfl;have q6:=cH.out 6 _ rfl;have bm:=A7.out.cell;refine De λa0 bw=>?_;have jA:=jq bw;have zZ:=jq (show a0.eval (.tmp 10) = .pointer (some ⟨Mb+1,0,none⟩) by rw[bw];rfl);have qC:=jq (show a0.eval (.tmp 13) = .pointer (some ⟨E,0,none⟩) by rw[bw];rfl);have rS:=jq (show a0.eval (.tmp 2) = .int .i64 t by rw[bw];rfl);have HM:=jq (show a0.tmps.size=81 by rw[bw];rfl);clear bw;refine wp_region_any (by kernel_rfl) ?_
          try rw[show ({ heap:=w7.heap,tape:=w7.tape,drawn:=w7.drawn+1,os:=w7.os,output:=w7.output } : World)=w8 from eB]
          try rw[eB]
          refine gl 18 (D:=[0,1,2,3,4,5,6,7,8,9,10,11,12,13,14,15,16,17]) (val:=ro E Mb ez zs ety elf til t b dA dn dc gA gn gc undef) ED Jo (rr HM.out) (by kernel_rfl) ?_ ?_
          ·intro i aR bS o ho a' hb aP;have k10':=aZJ hb zZ.out;have k13':=aZJ hb qC.out;have k2':=aZJ hb rS.out;simp[Act.eval] at k10' k13' k2'
           repeat' (rcases aR with _ | ⟨_,aR⟩)
           all_goals first
            | (exfalso;simp at bS;done)
            | (cases ho
               try simp[Act.eval,Region.binds,ro,qc] at aP
               refine .inl ⟨by first | (simp[Region.wanted];done) | (simp[Region.wanted,Df (j:=6) (d:=63),aP];done) | (simp[Region.wanted,Df (j:=12) (d:=69),aP];done),λw' hw'=>?_⟩;subst hw';simp[Oper.quietAt,Oper.quietUpon,execOp,go_sem,ro,k10',k13',k2',bm,JN,jV,q0,q1,q2,q3,q4,q5,q6,aP])
          ·intro f listed a' hH hr hv;have av12:=hv 12;simp[Act.eval,ro,qc] at av12;have av17:=hv 17;simp[Act.eval,ro,qc] at av17;simp only[wpOp];simp[Region.wanted,Df (j:=12) (d:=69),av12];refine .inl ?_;simp[Oper.wp,go_sem,av17];refine (Kn zs ety elf _ _ x.signed.set.data x.signed.sigs w8 (lz.out.keepAt (HB.out.trans (Ai.out.adZ) |>.mono (bQ _)) (by have:=AK.out;omega)) (by rw[M7.out];exact Ax.out) ((im.out.keep bV (Ai.out.adZ)).more cu (by omega)) ((nk.out.keep cg (Ai.out.adZ)).more cY (by omega))).mono ?_;rw[M7.out,no.out];rintro e w9 ⟨rfl,hb⟩;have qv:=hb.size;have yn:Hid (Below wr.heap.size wr w9):=acZ Ai hb;have cm:=jq (cH.out.keep hb (by omega));have Iv:=jq (a0J A7.out hb);have Ha:Hid (jn Mb (kvT ks) w9):=jq ((Ur.out.keep HB.out (by omega)).keep yn.out (by omega));clear hb q0 q1 q2 q3 q4 q5 q6 bm;have q0:=cm.out 0 _ rfl;have q1:=cm.out 1 _ rfl;have q2:=cm.out 2 _ rfl;have q3:=cm.out 3 _ rfl;have q4:=cm.out 4 _ rfl;have q5:=cm.out 5 _ rfl;have q6:=cm.out 6 _ rfl;have bm:=Iv.out.cell;have er:(Instr.lookup 136 (.map (some Mb)) (.agg #[.string ez,aA key]) false).run prog w9 = .ok (.bool b) w9:=by
            have:=aHX w9 136 4 underlying136 Mb _ Ha.out (ez.data.toList,key) (.bool false) (by kernel_rfl)
            unfold kvT at this;rw[CU,kg.out] at this;exact this
           dsimp only;refine gl 22 (D:=[0,1,2,3,4,5,6,7,8,9,10,11,12,13,14,15,16,17,19,20,21,18]) (val:=ro E Mb ez zs ety elf til t b dA dn dc gA gn gc (aA key)) ED Jo (hH.next ED Jo hr) (by kernel_rfl) ?_ ?_
           ·intro i aR bS o ho a' hb aP;have k10':=aZJ hb zZ.out;have k13':=aZJ hb qC.out;have k2':=aZJ hb rS.out;simp[Act.eval] at k10' k13' k2'
            repeat' (rcases aR with _ | ⟨_,aR⟩)
            all_goals first
             | (exfalso;simp at bS;done)
             | (cases ho
                try simp[Act.eval,Region.binds,ro,qc] at aP
                refine .inl ⟨by first | (simp[Region.wanted];done) | (simp[Region.wanted,Df (j:=6) (d:=63),aP];done) | (simp[Region.wanted,Df (j:=12) (d:=69),aP];done),λw' hw'=>?_⟩;subst hw';simp[Oper.quietAt,Oper.quietUpon,execOp,go_sem,ro,k10',k13',k2',bm,JN,jV,q0,q1,q2,q3,q4,q5,q6,er,aP])
           ·intro f listed a' hH hr hv;have av12:=hv 12;have av21:=hv 21;simp[Act.eval,ro,qc] at av12 av21;simp only[wpOp];simp[Region.wanted];refine .inl ?_;simp[Oper.wp,execOp,go_sem,av12,av21];refine tv hH hr HM.out ED (by kernel_rfl) λdZ=>?_
            ·rw[dZ,jA.out];simp[lp,Act.put,ro,qc];clear hv hH dZ;have mt:Hid (Below W.heap.size W w9):=acZ HB yn.out;clear q0 q1 q2 q3 q4 q5 q6 bm er
             cases b with
             | true=>
              have bC:=jq (vT.out qI.out);go_wp2_with fail;go_roundw
              case rel=>exact⟨k+1,by omega,by go_num,mt,bC⟩
              case measure=>simp[intOf] <;> omega
             | false=>
              have HF:Hid (px=((0:Int),false)):=jq (by rw[jB.out,Hk.out qI.out]);have Jf:w9.heap[D]?=some (.deferred (some [])):=(mt.out.block D An.out).trans AA.out;have qF:Hid (Below X w w9):=acZ ym mt.out;go_wp2_with fail;refine nJ Jf (v:=.tuple #[.bool false,.int .i64 0]) (by simp[results,results30,go_sem]) ?_;rw[HF.out];exact⟨rfl,by first | exact mA qF.out kK.out _ | (rw[hX];exact mA qF.out kK.out _)⟩
     case round=>
      rintro l0 pre ⟨⟨xz,xs,xty,xlf,dA,dn,dc,gA,gn,gc,fA,fn,fc,pA,pn,pc⟩,cc⟩ S W ba hI fR;have AL:=jq ba;have Ba:Hid ((⟨xz,xs,xty,xlf,dA,dn,dc,gA,gn,gc,fA,fn,fc,pA,pn,pc⟩,cc)∈L):=jq ((List.mem_filter.1 (ba.subset (List.mem_append_right _ (List.mem_singleton.2 rfl)))).1);have mC:Ga w6 Mb pre S (W.alloc (.cells #[.string xz,.string xs,.int .i64 xty,.int .i64 xlf,.slice dA dn dc,.slice gA gn gc,.slice fA fn fc,.slice pA pn pc] 57)):=by
       obtain⟨hS,hms,aM⟩:=hI;have hb:Below W.heap.size W (W.alloc (.cells #[.string xz,.string xs,.int .i64 xty,.int .i64 xlf,.slice dA dn dc,.slice gA gn gc,.slice fA fn fc,.slice pA pn pc] 57)):=(vQ _ _).alloc (bQ _) _;exact⟨hS,hms.keep hb hms.lt,aM.then_below hb⟩
      have sD:w6.heap.size<=W.heap.size:=by obtain⟨_,_,aM⟩:=hI;exact aM.size
      clear hI ba;gi_wp2;refine⟨λk=>S k\/k=W.heap.size,(RdStep.refl S W).alloc _,λk e=>e.imp id (λh=>by omega),λk e=>by rcases e with e | e;have:=fR k e;simp;omega;simp;omega,?_⟩;intro l' W₂ aB;obtain⟨E,hE⟩:=acJ W.heap.size;obtain⟨hS,hms,aM⟩:=NJ w6 Mb pre S _ W₂ mC (aB.weaken (bQ _) (λk e=>.inl e));have li:=aB.size;simp only[World.size_alloc] at li;have eG:W₂.heap[E]?=some (.cells #[.string xz,.string xs,.int .i64 xty,.int .i64 xlf,.slice dA dn dc,.slice gA gn gc,.slice fA fn fc,.slice pA pn pc] 57 (0,0)):=by rw[<-hE];exact (aB.keep W.heap.size (by simp) (.inr (.inr rfl))).trans (heap_alloc_new _ _)
      rw[hE] at li sD |-;have d0:W₂.cell? ⟨E,0,none⟩=some (.string xz):=(by simp[World.cell?,eG]);have d1:W₂.cell? ⟨E,1,none⟩=some (.string xs):=(by simp[World.cell?,eG]);have d2:W₂.cell? ⟨E,2,none⟩=some (.int .i64 xty):=(by simp[World.cell?,eG]);have d3:W₂.cell? ⟨E,3,none⟩=some (.int .i64 xlf):=(by simp[World.cell?,eG]);have d4:W₂.cell? ⟨E,4,none⟩=some (.slice dA dn dc):=(by simp[World.cell?,eG]);have d5:W₂.cell? ⟨E,5,none⟩=some (.slice gA gn gc):=(by simp[World.cell?,eG]);have yp:Hid (ls W₂ E [.string xz,.string xs,.int .i64 xty,.int .i64 xlf,.slice dA dn dc,.slice gA gn gc]):=jq (λi v hi=>by
       match i,hi with
       | 0,hi=>cases hi;exact d0
       | 1,hi=>cases hi;exact d1
       | 2,hi=>cases hi;exact d2
       | 3,hi=>cases hi;exact d3
       | 4,hi=>cases hi;exact d4
       | 5,hi=>cases hi;exact d5
       | i+6,hi=>simp at hi)
      have Ep:¬ S E:=λe=>by have:=fR _ e;omega
      have lX:=jq (AC.out _ Ba.out);have oM:=jq (AD.out _ Ba.out);have gR:=jq hS;have tK:=jq hms;have qY:=jq aM;have oO:Hid (Boxed W₂ (Mb+1) 136 (.map (some Mb))):=jq (DZ DM.out aM (by omega));have GF:Hid (SlR bR 3 W₂ W₂.heap.size (.slice dA dn dc) cc.signed.set.data):=jq ((lX.out.data.keep bV (aM.below (n:=w4.heap.size) (by omega) (λk e=>by omega))).more cu (by omega));have UY:Hid (SlR cS 6 W₂ W₂.heap.size (.slice gA gn gc) cc.signed.sigs):=jq ((lX.out.sigs.keep cg (aM.below (n:=w4.heap.size) (by omega) (λk e=>by omega))).more cY (by omega));have lz:Hid (go W₂):=jq (oK.out.keepAt (aM.below (n:=Mb) (by omega) (λk e=>by omega)) AK.out);have M6:Hid ((⟨⟨xs.data.toList,xty,xlf,cc.signed.set.data⟩,cc.signed.sigs⟩:Np.Signed)=cc.signed):=jq (by have h1:=lX.out.name;have h2:=lX.out.type;have h3:=lX.out.life;dsimp only at h1 h2 h3;rw[h1,h2,h3]);have tP:Hid (yb cc=(xz.data.toList,Np.dE cc.signed)):=jq (by have h1:=lX.out.zone;dsimp only at h1;unfold yb;rw[h1]);have bC:Hid (tks (pre ++ [(⟨xz,xs,xty,xlf,dA,dn,dc,gA,gn,gc,fA,fn,fc,pA,pn,pc⟩,cc)])=Np.gS (tks pre) (yb cc)):=jq aPZ;have xO:E<W₂.heap.size:=by omega
      obtain⟨ks,kA⟩:=acJ (tks pre);rw[kA] at tK bC;have bm:=oO.out.cell;clear aB mC kA hms aM eG hE hS;gi_wp2_with fail;have cL:Below W₂.heap.size W₂ W₂.drew:=(vQ _ _).drew;obtain⟨w8,eB⟩:=acJ W₂.drew;rw[eB] at cL;have n7:w8.heap.size=W₂.heap.size:=by rw[<-eB];rfl
      have eF:=jq cL;have A7:=jq (a0J oO.out cL);have cH:=jq (yp.out.keep cL xO);clear d0 d1 d2 d3 d4 d5 bm cL;have d0:=cH.out 0 _ rfl;have d1:=cH.out 1 _ rfl;have d2:=cH.out 2 _ rfl;have d3:=cH.out 3 _ rfl;have d4:=cH.out 4 _ rfl;have d5:=cH.out 5 _ rfl;have bm:=A7.out.cell;refine Dc λa0 bw=>?_;have jA:=jq bw;have zZ:=jq (show a0.eval (.tmp 10) = .pointer (some ⟨Mb+1,0,none⟩) by rw[bw];rfl);have vj:=jq (show a0.eval (.tmp 11) = .pointer (some ⟨E,0,none⟩) by rw[bw];rfl);have HM:=jq (show a0.tmps.size=81 by rw[bw];rfl);clear bw;refine F8 (by kernel_rfl) (by kernel_rfl) (by rintro⟨_,_,h⟩;exact h) ?_
      try rw[show ({ heap:=W₂.heap,tape:=W₂.tape,drawn:=W₂.drawn+1,os:=W₂.os,output:=W₂.output } : World)=w8 from eB]
      try rw[eB]
      refine gl 5 (D:=[0,1,2,3,4]) (val:=sE E Mb xz xs xty xlf dA dn dc gA gn gc undef) EE Jp (rr HM.out) (by kernel_rfl) ?_ ?_
      ·intro i aR bS o ho a' hb aP;have k10':=aZJ hb zZ.out;have k11':=aZJ hb vj.out;simp[Act.eval] at k10' k11'
       repeat' (rcases aR with _ | ⟨_,aR⟩)
       all_goals first
        | (exfalso;simp at bS;done)
        | (cases ho
           try simp[Act.eval,Region.binds,sE,rp] at aP
           refine gv (by simp[Region.wanted]) ?_;simp[Oper.quietAt,Oper.quietUpon,execOp,go_sem,sE,k10',k11',bm,d0,d1,d2,d3,d4,d5,aP])
      ·intro f listed a' hH hr hv;have av4:=hv 4;simp[Act.eval,sE,rp] at av4;simp only[wpOp];simp[Region.wanted];refine .inl ?_;simp[Oper.wp,go_sem,av4];refine (Kn xs xty xlf _ _ cc.signed.set.data cc.signed.sigs w8 (lz.out.keep eF.out) (by rw[M6.out];exact oM.out.1) (GF.out.later bV cu eF.out) (UY.out.later cg cY eF.out)).mono ?_;rw[M6.out];rintro e w9 ⟨rfl,hb⟩;have qv:=hb.size;have cR:Hid (Below W₂.heap.size W₂ w9):=acZ eF hb;have cm:=jq (cH.out.keep hb (by omega));have Iv:=jq (a0J A7.out hb);have Ha:Hid (jn Mb (kvT ks) w9):=jq (tK.out.keep cR.out tK.out.lt);obtain⟨wU,rA,nY,cG⟩:=aIK w9 136 4 underlying136 Mb _ Ha.out (xz.data.toList,Np.dE cc.signed) (.bool true) (Q9 (ks:=ks)).2;rw[(Q9 (ks:=ks)).1] at nY;replace rA:(Instr.mapUpdate 136 (.map (some Mb)) (.agg #[.string xz,aA (Np.dE cc.signed)]) (.bool true)).run prog w9 = .ok () wU:=rA;have oI:Hid (jn Mb (kvT (tks (pre ++ [(⟨xz,xs,xty,xlf,dA,dn,dc,gA,gn,gc,fA,fn,fc,pA,pn,pc⟩,cc)]))) wU):=jq (by rw[bC.out,tP.out];exact nY);have oL:=jq cG;have Fm:=cG.size;clear hb d0 d1 d2 d3 d4 d5 bm nY cG;have d0:=cm.out 0 _ rfl;have d1:=cm.out 1 _ rfl;have d2:=cm.out 2 _ rfl;have d3:=cm.out 3 _ rfl;have d4:=cm.out 4 _ rfl;have d5:=cm.out 5 _ rfl;have bm:=Iv.out.cell;dsimp only;refine gl 7 (D:=[0,1,2,3,4,6,5]) (val:=sE E Mb xz xs xty xlf dA dn dc gA gn gc (aA (Np.dE cc.signed))) EE Jp (hH.next EE Jp hr) (by kernel_rfl) ?_ ?_
       ·intro i aR bS o ho a' hb aP;have k10':=aZJ hb zZ.out;have k11':=aZJ hb vj.out;simp[Act.eval] at k10' k11'
        repeat' (rcases aR with _ | ⟨_,aR⟩)
        all_goals first
         | (exfalso;simp at bS;done)
         | (cases ho
            try simp[Act.eval,Region.binds,sE,rp] at aP
            refine gv (by simp[Region.wanted]) ?_;simp[Oper.quietAt,Oper.quietUpon,execOp,go_sem,sE,k10',k11',bm,d0,d1,d2,d3,d4,d5,aP])
       ·intro f listed a' hH hr hv;have av0:=hv 0;have av6:=hv 6;simp[Act.eval,sE,rp] at av0 av6;simp only[wpOp];simp[Region.wanted];refine .inl ?_;simp[Oper.wp,execOp,go_sem,av0,av6,rA,Result.andThen];refine tv hH hr HM.out EE (by kernel_rfl) λdZ=>?_
        ·rw[dZ,jA.out];simp[lp,Act.put,sE,rp];clear hv hH dZ;clear d0 d1 d2 d3 d4 d5 bm rA;have gz:Hid (RdStep (λk=>S k\/k=E) W₂ wU):=jq ⟨oL.out.os.trans cR.out.os,oL.out.tape.trans cR.out.tape,oL.out.output.trans cR.out.output,by have:=cR.out.size;omega,λk hk nV=>(oL.out.block k (λe=>nV (.inl ((gR.out k).2 e)))).trans (cR.out.block k hk)⟩;have UV:Hid (RdStep (λk=>k=Mb) w6 wU):=jq ((qY.out.then_below cR.out).trans (S':=λk=>k=Mb) ⟨oL.out.os,oL.out.tape,oL.out.output,by omega,λk _ nV=>oL.out.block k nV⟩ (λk e=>.inl e));gi_wp2_with fail;exact⟨λk=>k=Mb,gz.out,λk e=>.inl (.inl ((gR.out k).2 e)),λk e=>by have:=oI.out.lt;omega,λk=>Iff.rfl,oI.out,UV.out⟩
end
end Go.Proofs.YtfnopgdcaanaiaaGreatDoor
