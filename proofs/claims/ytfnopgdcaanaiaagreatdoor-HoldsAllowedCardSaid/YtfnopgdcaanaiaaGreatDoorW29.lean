/- Parts of the proof. No condition. -/
import Derived.Test.YtfnopgdcaanaiaaGreatDoorW28
set_option linter.all false
set_option maxRecDepth 100000
set_option maxHeartbeats 8000000
namespace Go.Proofs.YtfnopgdcaanaiaaGreatDoor
open Go.Proofs.Tryz
section
open Go.RowKit Go.Shelf Go.MapKept
attribute [local go_sem] Oper.semAt_some HC.cells
def wK(x:Np.Held):List UInt8×List UInt8:=(x.zone,Np.de x.signed)
def tks(pre:List (HC×Np.Held)):List (List UInt8×List UInt8):=Np.dg (pre.map λx=>wK x.2)
theorem arY{pre:List (HC×Np.Held)}{x:HC×Np.Held} : tks (pre ++ [x])=Np.iC (tks pre) (wK x.2):=by
 unfold tks;rw[List.map_append,List.map_singleton,Np.yH]
theorem arX{L:List (HC×Np.Held)}{l:List Np.Held}{t:Int}(hL:L.map (·.2)=l)(hP:∀ x∈L,Np.Plain47 x.2.signed){z:List UInt8}{s:Np.Signed}(hs:Np.Plain47 s):decide ((z,Np.de s)∈tks (L.filter λx=>Np.t8 x.2.spans t))=Np.mL l z s t:=by
 unfold tks;rw[Bool.eq_iff_iff,Qa,Np.tS,List.mem_map];unfold Np.mL;rw[List.any_eq_true];constructor
 ·rintro⟨x,hx,he⟩;obtain⟨hx,ht⟩:=List.mem_filter.1 hx;unfold wK at he;rw[Prod.mk.injEq] at he;refine⟨x.2,by rw[<-hL];exact List.mem_map.2 ⟨x,hx,rfl⟩,?_⟩;rw[Bool.and_eq_true,Bool.and_eq_true,Qa,Qa];exact⟨he.1,Np.D9 (hP x hx) hs he.2,ht⟩
 ·rintro⟨y,hy,he⟩;rw[<-hL] at hy;obtain⟨x,hx,rfl⟩:=List.mem_map.1 hy;rw[Bool.and_eq_true,Bool.and_eq_true,Qa,Qa] at he;exact⟨x,List.mem_filter.2 ⟨hx,he.2.2⟩,by unfold wK;rw[he.1,he.2.1]⟩
def kvT(ks:List (List UInt8×List UInt8)):List ((List UInt8×List UInt8)×Value):=ks.map λy=>(y,Value.bool true)
theorem OS{ks:List (List UInt8×List UInt8)}{p:List UInt8×List UInt8} : (if (kvT ks).lookup p=none then kvT ks ++ [(p,.bool true)] else kvT ks)=kvT (Np.iC ks p)/\((kvT ks).lookup p=none\/(kvT ks).lookup p=some (.bool true)):=by
 unfold kvT;by_cases h:p∈ks
 ·have h1:=BM ks p;rw[uQ h] at h1;have h2:(ks.map λy=>(y,Value.bool true)).lookup p=some (.bool true):=by
   cases h3:(ks.map λy=>(y,Value.bool true)).lookup p with
   | none=>rw[h3] at h1;simp at h1
   | some v=>rw[h3] at h1;simp at h1;rw[h1]
  rw[h2,Np.CP h];exact⟨Qc (λh=>nomatch h),.inr rfl⟩
 ·have h1:=Ef ks p h;rw[h1,Qb rfl,Np.iC,Qc h,List.map_append];exact⟨rfl,.inl rfl⟩
theorem Tp{l:List Np.Held}{t:Int}{c:List Np.Ent22}{k:Nat}{x:Np.Ent22}(hx:c[k]?=some x)(h:∀ e∈c.take k,Np.iS l t e=true)(h1:Np.iS l t x=true):∀ e∈c.take (k+1),Np.iS l t e=true:=λy hy=>by
 obtain⟨hl,he⟩:=cQ.1 hx;rw[fQ hl,he] at hy;rcases List.mem_append.1 hy with hy | hy
 ·exact h y hy
 ·rw[List.mem_singleton] at hy;subst hy;exact h1
theorem To{l:List Np.Held}{t:Int}{c:List Np.Ent22}{k:Nat}{x:Np.Ent22}(hx:c[k]?=some x)(h1:Np.iS l t x=false):Np.jf l c t=false:=by
 unfold Np.jf;rw[List.all_eq_false];exact⟨x,gQ hx,by rw[h1];decide⟩
def ES(w6:World)(Mb:Nat)(pre:List (HC×Np.Held))(S:Nat->Prop)(W:World):Prop:=
 (∀ k,S k↔k=Mb)/\iP Mb (kvT (tks pre)) W/\RdStep (λk=>k=Mb) w6 W
theorem LK(w6:World)(Mb:Nat):fL w6.heap.size (ES w6 Mb):=by
 rintro pre S W W' ⟨hS,h1,h4⟩ ay;exact⟨hS,h1.keep' (ay.keep Mb h1.lt (.inr ((hS _).2 rfl))),⟨ay.os.trans h4.os,ay.tape.trans h4.tape,ay.output.trans h4.output,yQ h4.size ay.size,λk hk mp=>(ay.keep k (lQ hk h4.size) (.inl hk)).trans (h4.keep k hk mp)⟩⟩
theorem B6{ops:Array Oper}{tmps:Array Value}{j d:Nat}(hd:(ops[j]?).bind (·.dst)=some d):yielded ops tmps j=(match tmps[d]?.getD undef with | .bool b=>some b | _=>none):=by
 unfold yielded;rw[hd];show (match tmps[d]? with | some (.bool b)=>some b | _=>none)=_
 cases tmps[d]? with
 | none=>rfl
 | some v=>cases v <;> rfl
def ru(E Mb:Nat)(xz xs:ByteArray)(xty xlf:Int)(dA:Option Addr)(dn dc:Nat)(gA:Option Addr)(gn gc:Nat)(e5:Value)(i:Nat):Value:=[.map (some Mb),.pointer (some ⟨E,0,none⟩),.string xz,.pointer (some ⟨E,1,none⟩),.agg #[.string xs,.int .i64 xty,.int .i64 xlf,.slice dA dn dc,.slice gA gn gc],e5,.agg #[.string xz,e5],undef].getD i undef
def qB(i:Nat):Nat:=[43,44,45,46,47,48,49,0].getD i 0
def VI:List Nat:=[0,1,2,3,4,6,5].map qB
theorem Dy:∀ i∈[0,1,2,3,4,6,5],qB i<81/\qB i∈VI:=by decide
theorem He:∀ i∈[0,1,2,3,4,6,5],∀ j∈[0,1,2,3,4,6,5],j≠i->qB i≠qB j:=by decide
def qA(E Mb:Nat)(ez zs:ByteArray)(ety elf til t:Int)(b:Bool)(dA:Option Addr)(dn dc:Nat)(gA:Option Addr)(gn gc:Nat)(e18:Value)(i:Nat):Value:=[.pointer (some ⟨E,0,none⟩),.pointer (some ⟨E,0,none⟩),.pointer (some ⟨E,3,none⟩),.slice dA dn dc,.int .i64 (dn:Nat),.bool true,.bool true,.pointer (some ⟨E,6,none⟩),.int .i64 til,.int .i64 t,.bool true,.bool true,.bool true,.map (some Mb),.pointer (some ⟨E,5,none⟩),.string ez,.pointer (some ⟨E,0,none⟩),.agg #[.string zs,.int .i64 ety,.int .i64 elf,.slice dA dn dc,.slice gA gn gc],e18,.agg #[.string ez,e18],.bool b,.bool (!b),undef].getD i undef
def pD(i:Nat):Nat:=[57,58,59,60,61,62,63,64,65,66,67,68,69,70,71,72,73,74,75,76,77,78,79].getD i 0
def VH:List Nat:=[0,1,2,3,4,5,6,7,8,9,10,11,12,13,14,15,16,17,19,20,21,18].map pD
theorem Dx:∀ i∈[0,1,2,3,4,5,6,7,8,9,10,11,12,13,14,15,16,17,19,20,21,18],pD i<81/\pD i∈VH:=by decide
theorem Hd:∀ i∈[0,1,2,3,4,5,6,7,8,9,10,11,12,13,14,15,16,17,19,20,21,18],∀ j∈[0,1,2,3,4,5,6,7,8,9,10,11,12,13,14,15,16,17,19,20,21,18],j≠i->pD i≠pD j:=by decide
theorem zW(e:List Value)(h:Np.Hist)(v:Value)(l:List Np.Ent22)(t:Int)(w:World)(hV:iO w.heap.size w)(k:j8 w e h)(hd:SlR cH 7 w w.heap.size v l)(BA:Np.Gx l) :
 Calls prog 30 #[.agg e.toArray,.agg #[v],.int .i64 t] w λe w'=>e = .returned (.tuple #[.bool (Np.uK h l t).2,.int .i64 (Np.uK h l t).1])/\Below w.heap.size w w':=by
 obtain⟨A1,n1,c1,A2,n2,c2,s,ty0,lf,A3,n3,c3,A4,n4,c4,dr,st,rfl,-,-,-,-,-⟩:=yw k.rh;have jd:=jq hd;obtain⟨cA,ck,rfl,_,_⟩:=ak hd;obtain⟨cn,qC⟩:=aCQ l.length;rw[qC] at jd |-;have mW:=jq qC;have nh:=jq BA;obtain⟨X,hX⟩:=aCQ w.heap.size;obtain⟨px,br⟩:=aCQ (Np.uK h l t);rw[br];have nf:=jq br;obtain⟨w1,ah⟩:=aCQ ((w.alloc (.cells #[.slice A1 n1 c1,.slice A2 n2 c2,.string s,.int .i64 ty0,.int .i64 lf,.slice A3 n3 c3,.slice A4 n4 c4,.int .i64 dr,.int .i64 st] 29)).alloc (.cells #[.slice cA cn ck] 76));have bk:w1.heap.size=X+2:=by rw[<-ah,<-hX];simp
 have hb:Below w.heap.size w w1:=by rw[<-ah];exact ((vQ _ _).alloc (bQ _) _).alloc (by simp) _
 have aq:=jq hb;have fm:=jq (hV.next hb);have j6:=jq (k.keep hb);have aM:Hid (lu w1 X [.slice A1 n1 c1,.slice A2 n2 c2,.string s,.int .i64 ty0,.int .i64 lf,.slice A3 n3 c3,.slice A4 n4 c4,.int .i64 dr,.int .i64 st]):=jq (by
  rw[<-ah,<-hX];exact (jB [.slice A1 n1 c1,.slice A2 n2 c2,.string s,.int .i64 ty0,.int .i64 lf,.slice A3 n3 c3,.slice A4 n4 c4,.int .i64 dr,.int .i64 st] 29 rfl rfl).keep ((vQ _ _).alloc (bQ _) _) (by simp))
 have q0:w1.cell? ⟨X+1,0,none⟩=some (.slice cA cn ck):=by rw[<-ah,<-hX];simp[go_sem]
 have ka:=jq q0;clear hb hV k br hd BA qC;have k0:=aM.out 0 _ rfl;have k1:=aM.out 1 _ rfl;have k2:=aM.out 2 _ rfl;have k3:=aM.out 3 _ rfl;have k4:=aM.out 4 _ rfl;have k5:=aM.out 5 _ rfl;have k6:=aM.out 6 _ rfl;have k7:=aM.out 7 _ rfl;have k8:=aM.out 8 _ rfl;refine (callsIn_wide (n:=0)).1 ?_;refine callsIn_of_wp_marks func30 rfl trivial ?_ rfl;simp only[ntmps30,List.size_toArray,List.length_cons,List.length_nil,Nat.reduceAdd,Nat.reduceSub,Array.replicate_succ,Array.replicate_zero,List.push_toArray,List.append_toArray,List.nil_append,List.cons_append];gi_wp2_with fail;clear ah;refine⟨trivial,rfl,?_⟩;refine (callsIn_wide.2 (LZ _ h w1 fm.out j6.out)).mono ?_;rintro e w2 ⟨rfl,hb⟩;have aK:=hb.size;have ai:=aBY aq hb;have ib:=jq (fm.out.next hb);have nZ:=jq (j6.out.keep hb);have bd:=jq (aM.out.keep hb (by omega));replace q0:=aBX hb q0;have mT:=jq hb;clear hb k0 k1 k2 k3 k4 k5 k6 k7 k8;by_cases ij:Np.VHist h
 case neg=>
  rw[Np.aC ij];have HN:=jq ij;clear ij;have g8:Hid (px=((1:Int),false)):=jq (by rw[<-nf.out];exact Np.CQ (λk=>HN.out k.1));gi_wp2_with fail;refine⟨trivial,?_⟩;gi_wp2_with fail;refine kh (v:=.tuple #[.bool false,.int .i64 1]) (by simp[results,results30,go_sem]) ?_;rw[g8.out];exact⟨rfl,ai.out⟩
 case pos=>
  rw[Np.ba ij];have gq:=jq ij;clear ij;gi_wp2_with fail;refine⟨trivial,rfl,?_⟩;refine (callsIn_wide.2 (Uw _ l w2 ib.out.rules ((jd.out.keep eR ai.out).more ir ai.out.size))).mono ?_;rintro e w3 ⟨rfl,hb⟩;have eF:=hb.size;have am:=aBY ai hb;have kJ:=jq (ib.out.next hb);have sJ:=jq (nZ.out.keep hb);have bg:=jq (bd.out.keep hb (by omega));have qZ:=aBY mT hb;clear hb q0;by_cases hQ:Np.VCache l
  case neg=>
   rw[Np.aC hQ];have HN:=jq hQ;clear hQ;have g8:Hid (px=((1:Int),false)):=jq (by rw[<-nf.out];exact Np.CQ (λk=>HN.out k.2.1));gi_wp2_with fail;refine kh (v:=.tuple #[.bool false,.int .i64 1]) (by simp[results,results30,go_sem]) ?_;rw[g8.out];exact⟨rfl,am.out⟩
  case pos=>
   rw[Np.ba hQ];have zm:=jq hQ;clear hQ;by_cases pR:t<0
   ·have rB:decide (t<0)=true:=uQ pR;have HN:=jq pR;clear pR;have g8:Hid (px=((1:Int),false)):=jq (by rw[<-nf.out];exact Np.CQ (λk=>by have:=k.2.2.1;have:=HN.out;omega));gi_wp2_with fail;refine kh (v:=.tuple #[.bool false,.int .i64 1]) (by simp[results,results30,go_sem]) ?_;rw[g8.out];exact⟨rfl,am.out⟩
   ·have rB:decide (t<0)=false:=tQ pR;by_cases pS:20000000<t
    ·have fG:decide (20000000<t)=true:=uQ pS;have HN:=jq pS;clear pS;have g8:Hid (px=((1:Int),false)):=jq (by rw[<-nf.out];exact Np.CQ (λk=>by have:=k.2.2.2;have:=HN.out;omega));gi_wp2_with fail;refine kh (v:=.tuple #[.bool false,.int .i64 1]) (by simp[results,results30,go_sem]) ?_;rw[g8.out];exact⟨rfl,am.out⟩
    ·have fG:decide (20000000<t)=false:=tQ pS;have bl:Hid (Np.B8 h l t):=jq ⟨gq.out,zm.out,by omega,by omega⟩;have ug:Hid (px=((0:Int),Np.jf (Np.bM h) l t)):=jq (by rw[<-nf.out];exact Np.xG bl.out);clear pR pS;have k0:=bg.out 0 _ rfl;have k1:=bg.out 1 _ rfl;have k2:=bg.out 2 _ rfl;have k3:=bg.out 3 _ rfl;have k4:=bg.out 4 _ rfl;have k5:=bg.out 5 _ rfl;have k6:=bg.out 6 _ rfl;have k7:=bg.out 7 _ rfl;have k8:=bg.out 8 _ rfl;gi_wp2_with fail;refine⟨trivial,rfl,?_⟩;refine (callsIn_wide.2 (zV _ h w3 kJ.out sJ.out)).mono ?_;rw[Np.zT gq.out];rintro e w4 ⟨Aa,na,ca,rfl,my,Bt,hb⟩;have fd:=hb.size;have aP:=aBY am hb;have E4:=aBY qZ hb;have kG:=jq (kJ.out.next hb).pow;have F6:Hid (SlR ie 8 w4 w4.heap.size (.slice Aa na ca) (Np.bM h)):=jq (Bt.all qU);have vF:(Np.bM h).length=na:=my;have WY:na<=2100:=by rw[<-vF];unfold Np.bM;rw[List.length_map];exact j6.out.use.pubAll
     have KH:=jq vF;clear hb Bt my vF k0 k1 k2 k3 k4 k5 k6 k7 k8 rB fG;obtain⟨Mb,qy⟩:=aCQ w4.heap.size;have lN:∀ (w:World),(Instr.makeMap 136 none).run prog w = .ok (.map (some w.heap.size)) (w.alloc (.map #[] 0)):=λw=>by
      simp[Instr.makeMap,Result.andThen]
     obtain⟨w5,aW⟩:=aCQ ((w4.alloc (.map #[] 0)).alloc (.cells #[.map (some Mb)] 136));have iJ:w5.heap.size=Mb+2:=by rw[<-aW,<-qy];simp
     have aJ:Below w4.heap.size w4 w5:=by rw[<-aW];exact ((vQ _ _).alloc (bQ _) _).alloc (by simp) _
     have qm:Hid (iP Mb [] w5):=jq (by
      rw[<-aW,<-qy];exact (iP.made w4).keep ((vQ _ _).alloc (bQ _) _) (by simp))
     have Gm:Hid (Boxed w5 (Mb+1) 136 (.map (some Mb))):=jq (by
      rw[<-aW,<-qy]
      have:=(Boxed.new (w4.alloc (.map #[] 0)) 136 (.map (some w4.heap.size)))
      simpa using this)
     have cm:=aBY aP aJ;have E5:=aBY E4 aJ;have p9:=jq aJ;clear aJ;gi_wp2_with fail;clear lN;refine⟨trivial,rfl,?_⟩;refine (callsIn_wide.2 (M0 _ Aa na ca rfl t w5)).mono ?_;rintro e w6 ⟨rfl,cj⟩;have iq:w6.heap.size=Mb+4:=by rw[cj];simp;omega
     have aR:Below w5.heap.size w5 w6:=by rw[cj];exact ((vQ _ _).alloc (bQ _) _).alloc (by simp) _
     have kX:w6.cell? ⟨Mb+2,0,none⟩=some (.slice Aa na ca):=by rw[cj,<-iJ];simp[go_sem]
     have kT:w6.cell? ⟨Mb+2+1,0,none⟩=some (.int .i64 t):=by rw[cj,show Mb+2+1=w5.heap.size+1 by omega];simp[go_sem]
     rw[iJ];have sE:=aBY p9 aR;obtain⟨L,ii,lI,pC⟩:=Nf (F6.out.keep sf sE.out);have zd:Hid (∀ x∈L,uk w6 w4.heap.size x.1 x.2):=jq (λx hx=>by
      obtain⟨i,hi⟩:=List.mem_iff_getElem?.1 hx;exact (pC i x hi).1)
     have ze:Hid (∀ x∈L,KeyS x.2.signed/\Np.Plain47 x.2.signed):=jq (λx hx=>Np.LJ gq.out j6.out.sums (by rw[<-ii];exact List.mem_map.2 ⟨x,hx,rfl⟩));have uq:=jq (M2 L t (Mb+2) (Mb+2+1) na ca (λk=>k<w6.heap.size/\¬ k=Mb) Aa w6 ⟨by omega,by omega⟩ ⟨by omega,by omega⟩ kX kT lI (by omega)
      (λi x hx=>by
        obtain⟨_,b,o,h1,h2,h3⟩:=pC i x hx;exact⟨b,o,h1,⟨by omega,by omega⟩,h3⟩)
      (λx hx W hW=>by
        have h1:=(zd.out x hx).spans;have aD:Below w4.heap.size w6 ({ w6 with heap:=W.heap } : World):=⟨rfl,rfl,rfl,hW.1,λk hk=>(hW.2 k ⟨by omega,by omega⟩).2⟩;have h2:=(h1.keep iu aD).more pW (show w4.heap.size<=W.heap.size by have:=hW.1;omega);exact Qi h2 rfl))
     have zg:Hid (iP Mb (kvT (tks [])) w6):=jq (qm.out.keep aR (by omega));have CG:=jq (aEX Gm.out aR);have du:=aBY cm aR;have Ca:=aBY E5 aR;have mY:=jq ii;have xi:=jq lI;have og:=jq (kG.out.keep sE.out);have zi:Hid (1<Mb):=jq (by rw[<-qy];exact kG.out.lt);clear aR cj aW kX kT ii pC lI;gi_wp2_with fail;refine EO (Dr:=λk=>k<w6.heap.size/\¬ k=Mb) (w0:=w6) (first:=#[]) (captured:=#[.pointer (some ⟨Mb+2,0,none⟩),.pointer (some ⟨Mb+2+1,0,none⟩)]) (gf:=127) rfl Mp (mk:=λy=>#[y,.pointer (some ⟨Mb+2,0,none⟩),.pointer (some ⟨Mb+2+1,0,none⟩)]) (λ_=>rfl)
      uq.out (eB.refl λk e=>e.1) (λ_=>rfl) (ES w6 Mb) (λ_ _ _ _=>False)
      (LK _ _) (λc s S W W' h _=>h)
      (λk=>k=Mb) (λk h1 h2=>h2.2 h1) (by intro k h;omega)
      ⟨λk=>Iff.rfl,zg.out,RdStep.refl _ _⟩ ?round ?done ?stop
     case stop=>
      rintro D c pre S W hD gw bj ga h hK;exact h.elim
     case done=>
      rintro D S W hD gw bj ⟨hS,hms,aI⟩ hK;have KB:Hid (∀ (z:List UInt8) (s:Np.Signed),Np.Plain47 s->decide ((z,Np.de s)∈tks (L.filter λx=>Np.t8 x.2.spans t))=Np.mL (Np.bM h) z s t):=jq (λz s hs=>arX mY.out (λx hx=>(ze.out x hx).2) hs);obtain⟨ks,jM⟩:=aCQ (tks (L.filter λx=>Np.t8 x.2.spans t));rw[jM] at hms KB;have rt:=aI.size;have yY:Hid (D<W.heap.size):=jq (eQ.1 hK).1;have CI:X+2<=Mb:=by omega
      have pz:Below Mb w6 W:=aI.below (by omega) (λk e=>by omega);have wW:Hid (Below X w W):=jq ((show Below X w w6 by rw[<-hX];exact du.out).trans (pz.aDQ));have SY:Hid (Boxed W (Mb+1) 136 (.map (some Mb))):=jq (CU CG.out aI (by omega));have R7:=jq hms;have zb:=jq hK;have q0:W.cell? ⟨X+1,0,none⟩=some (.slice cA cn ck):=aBX pz ((cl Ca.out (by omega)).trans ka.out);have kH:Hid (fK W):=jq (og.out.keepAt pz zi.out);have Fq:Hid (SlR cH 7 W X (.slice cA cn ck) l):=jq (by have:=jd.out;rw[hX] at this;exact this.keep eR wW.out);have hMW:Mb+1<W.heap.size:=by omega
      have j5:Hid (X<=D):=jq (by omega);have Wb:cn<=400:=by rw[<-mW.out];exact zm.out.few
      clear hS hms aI hK jM pz;gi_wp2_with fail;refine wpIn_wide.2 ?_;go_loopw [53] (λi wr=>∃ k:Nat,k<=cn/\i = .int .i64 k/\Hid (Below W.heap.size W wr)/\Hid (∀ e∈l.take k,Np.iS (Np.bM h) t e=true)) (λi _=>cn - (intOf i).toNat)
      case atStart=>exact⟨0,jQ _,rfl,jq (vQ _ _),jq (by simp)⟩
      case round=>
       obtain⟨k,hk,rfl,HB,HG⟩:=hrel;have an:=HB.out.size;by_cases aa:k<cn
       case neg=>
        have HF:Hid (px=((0:Int),true)):=jq (by
         rw[ug.out];have h1:=HG.out;rw[kQ (by rw[mW.out];omega)] at h1;unfold Np.jf;rw[List.all_eq_true.2 h1])
        have G4:wr.heap[D]?=some (.deferred (some [])):=(HB.out.block D yY.out).trans zb.out;have go:Hid (Below X w wr):=aBY wW HB.out;go_wp2_with fail;gi_wp2_with fail;refine nu G4 (v:=.tuple #[.bool true,.int .i64 0]) (by simp[results,results30,go_sem]) ?_;rw[HF.out];exact⟨rfl,by rw[hX];exact me go.out j5.out _⟩
       case pos=>
        obtain⟨x,ac⟩:∃ x,l[k]?=some x:=⟨_,aQ (by rw[mW.out];exact aa)⟩;obtain⟨b,o,zs,ez,dA,dn,dc,gA,gn,gc,rfl,bD,ar,ip,gJ,gK,aO,nD,jI,nC,hce⟩:=uT (Fq.out.keep eR (HB.out.aDQ)) ac;have Ct:=jq (zm.out.each x (gQ ac));have K8:=jq (nh.out x (gQ ac));have Gc:=jq (λh1=>Tp (l:=Np.bM h) (t:=t) ac HG.out h1);have Se:=jq (λh1=>To (l:=Np.bM h) (t:=t) ac h1);have f0:=hce 0 _ rfl;have f1:=hce 1 _ rfl;have f2:=hce 2 _ rfl;have f3:=hce 3 _ rfl;have f4:=hce 4 _ rfl;have f5:=hce 5 _ rfl;have f6:=hce 6 _ rfl;simp only[Nat.add_zero] at f0;have uA:=jq (And.intro ar gJ);have jy:=jq aO;have l6:=jq nD;have qf:=jq jI;have bV:(0:Int)<=(k:Int):=by omega
        have bT:(k:Int)<(cn:Int):=by omega
        obtain⟨ety,dC⟩:=aCQ x.signed.set.type;obtain⟨elf,ld⟩:=aCQ x.signed.set.life;obtain⟨til,mE⟩:=aCQ x.til;have di:=jq (And.intro dC (And.intro ld mE));rw[dC] at f1;rw[ld] at f2;rw[mE] at f6;obtain⟨E,hE⟩:=aCQ wr.heap.size;obtain⟨w7,gV⟩:=aCQ (wr.alloc (.cells #[.string zs,.int .i64 ety,.int .i64 elf,.slice dA dn dc,.slice gA gn gc,.string ez,.int .i64 til] 83));have ep:Below wr.heap.size wr w7:=by rw[<-gV];exact (vQ _ _).alloc (bQ _) _
        have nN:w7.heap.size=E+1:=by rw[<-gV,<-hE];simp
        have eU:=jq (jB _ _ hE gV);have cr:=aBY HB ep;have Fk:=jq ep;have HWs:=an;have q0:=eU.out 0 _ rfl;have q1:=eU.out 1 _ rfl;have q2:=eU.out 2 _ rfl;have q3:=eU.out 3 _ rfl;have q4:=eU.out 4 _ rfl;have q5:=eU.out 5 _ rfl;have q6:=eU.out 6 _ rfl;clear ac ar ip gJ gK aO nD jI nC hce dC ld mE ep;by_cases rC:dn=0
        case pos=>
         subst rC;have qg:Hid (Np.iS (Np.bM h) t x=true):=jq (by
          unfold Np.iS;rw[rQ qf.out];rfl)
         have bO:=jq (Gc.out qg.out);go_wp2_with fail
         try rw[gV]
         clear gV f0 f1 f2 f3 f4 f5 f6;go_quiet (fail);go_wp2_with fail;go_roundw
         case rel=>exact⟨k+1,by omega,by go_num,jq (below_drewN cr.out _),bO⟩
         case measure=>simp[intOf] <;> omega
        case neg=>
         have oK:decide ((0:Int)<(dn:Int))=true:=aDX;have Ni:0<dn:=by omega
         have od:Hid (x.signed.set.data≠[]):=jq (λh=>rC (by rw[<-qf.out,h];rfl));clear rC;by_cases nL:til<=t
         case pos=>
          have iY:decide (t<til)=false:=aDJ;have qg:Hid (Np.iS (Np.bM h) t x=true):=jq (by
           unfold Np.iS;rw[di.out.2.2,uQ nL];simp)
          have bO:=jq (Gc.out qg.out);clear nL;go_wp2_with fail
          try rw[gV]
          clear gV f0 f1 f2 f3 f4 f5 f6;go_quiet (fail);go_wp2_with fail;go_roundw
          case rel=>exact⟨k+1,by omega,by go_num,jq (below_drewN cr.out _),bO⟩
          case measure=>simp[intOf] <;> omega
         case neg=>
          have iY:decide (t<til)=true:=aDX;have za:=jq (Np.UD Ct.out od.out K8.out);have rk:=jq (Np.UE Ct.out od.out K8.out);obtain⟨b,dT⟩:=aCQ (Np.mL (Np.bM h) x.zone x.signed t);have dE:=jq dT;have qi:Hid (Np.iS (Np.bM h) t x=b):=jq (by
           unfold Np.iS;rw[di.out.2.2,tQ nL,dT]
           cases hdd:x.signed.set.data with
           | nil=>exact absurd hdd od.out
           | cons=>rfl)
          have n9:Hid (decide ((ez.data.toList,Np.de x.signed)∈ks)=b):=jq (by rw[uA.out.2,KB.out _ _ rk.out];exact dT);have K6:Hid ((⟨⟨zs.data.toList,ety,elf,x.signed.set.data⟩,x.signed.sigs⟩:Np.Signed)=x.signed):=jq (by rw[uA.out.1,<-di.out.1,<-di.out.2.1]);obtain⟨key,mu⟩:=aCQ (Np.de x.signed);rw[mu] at n9;have mX:=jq mu;clear nL dT mu;go_wp2_with fail
          try rw[gV]
          clear gV f0 f1 f2 f3 f4 f5 f6;have dS:Below w7.heap.size w7 w7.drew:=(vQ _ _).drew;obtain⟨w8,eZ⟩:=aCQ w7.drew;rw[eZ] at dS;have qL:w8.heap.size=w7.heap.size:=by rw[<-eZ];rfl
          have yV:Hid (Below wr.heap.size wr w8):=aBY Fk dS;have fk:=jq (eU.out.keep dS (by omega));have zC:Hid (Boxed w8 (Mb+1) 136 (.map (some Mb))):=jq (cD (aEX SY.out HB.out) yV.out (by omega));clear q0 q1 q2 q3 q4 q5 q6 dS;have q0:=fk.out 0 _ rfl;have q1:=fk.out 1 _ rfl;have q2:=fk.out 2 _ rfl;have q3:=fk.out 3 _ rfl;have q4:=fk.out 4 _ rfl;have q5:=fk.out 5 _ rfl;have q6:=fk.out 6 _ rfl;have bm:=zC.out.cell;refine QW λa0 cJ=>?_;have kC:=jq cJ;have yR:=jq (show a0.eval (.tmp 10) = .pointer (some ⟨Mb+1,0,none⟩) by rw[cJ];rfl);have p8:=jq (show a0.eval (.tmp 13) = .pointer (some ⟨E,0,none⟩) by rw[cJ];rfl);have B9:=jq (show a0.eval (.tmp 2) = .int .i64 t by rw[cJ];rfl);have HM:=jq (show a0.tmps.size=81 by rw[cJ];rfl);clear cJ;refine wp_region_any (by kernel_rfl) ?_
          try rw[show ({ heap:=w7.heap,tape:=w7.tape,drawn:=w7.drawn+1,os:=w7.os,output:=w7.output } : World)=w8 from eZ]
          try rw[eZ]
          refine fS 18 (D:=[0,1,2,3,4,5,6,7,8,9,10,11,12,13,14,15,16,17]) (val:=qA E Mb ez zs ety elf til t b dA dn dc gA gn gc undef) Dx Hd (vp HM.out) (by kernel_rfl) ?_ ?_
          ·intro i aG bn o ho a' hb aF;have k10':=aEJ hb yR.out;have k13':=aEJ hb p8.out;have k2':=aEJ hb B9.out;simp[Act.eval] at k10' k13' k2'
           repeat' (rcases aG with _ | ⟨_,aG⟩)
           all_goals first
            | (exfalso;simp at bn;done)
            | (cases ho
               try simp[Act.eval,Region.binds,qA,pD] at aF
               refine .inl ⟨by first | (simp[Region.wanted];done) | (simp[Region.wanted,B6 (j:=6) (d:=63),aF];done) | (simp[Region.wanted,B6 (j:=12) (d:=69),aF];done),λw' hw'=>?_⟩;subst hw';simp[Oper.quietAt,Oper.quietUpon,execOp,go_sem,qA,k10',k13',k2',bm,Ni,iY,q0,q1,q2,q3,q4,q5,q6,aF])
          ·intro f listed a' hH hr hv;have av12:=hv 12;simp[Act.eval,qA,pD] at av12;have av17:=hv 17;simp[Act.eval,qA,pD] at av17;simp only[wpOp];simp[Region.wanted,B6 (j:=12) (d:=69),av12];refine .inl ?_;simp[Oper.wp,go_sem,av17];refine (IK zs ety elf _ _ x.signed.set.data x.signed.sigs w8 (kH.out.keepAt (HB.out.trans (yV.out.aDQ) |>.mono (bQ _)) (by have:=zi.out;omega)) (by rw[K6.out];exact za.out) ((jy.out.keep cM (yV.out.aDQ)).more dt (by omega)) ((l6.out.keep dD (yV.out.aDQ)).more eu (by omega))).mono ?_;rw[K6.out,mX.out];rintro e w9 ⟨rfl,hb⟩;have tN:=hb.size;have xa:Hid (Below wr.heap.size wr w9):=aBY yV hb;have gL:=jq (fk.out.keep hb (by omega));have Gn:=jq (aEX zC.out hb);have FG:Hid (iP Mb (kvT ks) w9):=jq ((R7.out.keep HB.out (by omega)).keep xa.out (by omega));clear hb q0 q1 q2 q3 q4 q5 q6 bm;have q0:=gL.out 0 _ rfl;have q1:=gL.out 1 _ rfl;have q2:=gL.out 2 _ rfl;have q3:=gL.out 3 _ rfl;have q4:=gL.out 4 _ rfl;have q5:=gL.out 5 _ rfl;have q6:=gL.out 6 _ rfl;have bm:=Gn.out.cell;have dN:(Instr.lookup 136 (.map (some Mb)) (.agg #[.string ez,av key]) false).run prog w9 = .ok (.bool b) w9:=by
            have:=akJ w9 136 4 underlying136 Mb _ FG.out (ez.data.toList,key) (.bool false) (by kernel_rfl)
            unfold kvT at this;rw[BM,n9.out] at this;exact this
           dsimp only;refine fS 22 (D:=[0,1,2,3,4,5,6,7,8,9,10,11,12,13,14,15,16,17,19,20,21,18]) (val:=qA E Mb ez zs ety elf til t b dA dn dc gA gn gc (av key)) Dx Hd (hH.next Dx Hd hr) (by kernel_rfl) ?_ ?_
           ·intro i aG bn o ho a' hb aF;have k10':=aEJ hb yR.out;have k13':=aEJ hb p8.out;have k2':=aEJ hb B9.out;simp[Act.eval] at k10' k13' k2'
            repeat' (rcases aG with _ | ⟨_,aG⟩)
            all_goals first
             | (exfalso;simp at bn;done)
             | (cases ho
                try simp[Act.eval,Region.binds,qA,pD] at aF
                refine .inl ⟨by first | (simp[Region.wanted];done) | (simp[Region.wanted,B6 (j:=6) (d:=63),aF];done) | (simp[Region.wanted,B6 (j:=12) (d:=69),aF];done),λw' hw'=>?_⟩;subst hw';simp[Oper.quietAt,Oper.quietUpon,execOp,go_sem,qA,k10',k13',k2',bm,Ni,iY,q0,q1,q2,q3,q4,q5,q6,dN,aF])
           ·intro f listed a' hH hr hv;have av12:=hv 12;have av21:=hv 21;simp[Act.eval,qA,pD] at av12 av21;simp only[wpOp];simp[Region.wanted];refine .inl ?_;simp[Oper.wp,execOp,go_sem,av12,av21];refine sr hH hr HM.out Dx (by kernel_rfl) λfH=>?_
            ·rw[fH,kC.out];simp[kA,Act.put,qA,pD];clear hv hH fH;have dI:Hid (Below W.heap.size W w9):=aBY HB xa.out;clear q0 q1 q2 q3 q4 q5 q6 bm dN
             cases b with
             | true=>
              have bO:=jq (Gc.out qi.out);go_wp2_with fail;go_roundw
              case rel=>exact⟨k+1,by omega,by go_num,dI,bO⟩
              case measure=>simp[intOf] <;> omega
             | false=>
              have HF:Hid (px=((0:Int),false)):=jq (by rw[ug.out,Se.out qi.out]);have G4:w9.heap[D]?=some (.deferred (some [])):=(dI.out.block D yY.out).trans zb.out;have go:Hid (Below X w w9):=aBY wW dI.out;go_wp2_with fail;refine nu G4 (v:=.tuple #[.bool false,.int .i64 0]) (by simp[results,results30,go_sem]) ?_;rw[HF.out];exact⟨rfl,by first | exact me go.out j5.out _ | (rw[hX];exact me go.out j5.out _)⟩
     case round=>
      rintro l0 pre ⟨⟨xz,xs,xty,xlf,dA,dn,dc,gA,gn,gc,fA,fn,fc,pA,pn,pc⟩,cc⟩ S W br hI fq;have zj:=jq br;have zD:Hid ((⟨xz,xs,xty,xlf,dA,dn,dc,gA,gn,gc,fA,fn,fc,pA,pn,pc⟩,cc)∈L):=jq ((List.mem_filter.1 (br.subset (List.mem_append_right _ (List.mem_singleton.2 rfl)))).1);have mg:ES w6 Mb pre S (W.alloc (.cells #[.string xz,.string xs,.int .i64 xty,.int .i64 xlf,.slice dA dn dc,.slice gA gn gc,.slice fA fn fc,.slice pA pn pc] 57)):=by
       obtain⟨hS,hms,aI⟩:=hI;have hb:Below W.heap.size W (W.alloc (.cells #[.string xz,.string xs,.int .i64 xty,.int .i64 xlf,.slice dA dn dc,.slice gA gn gc,.slice fA fn fc,.slice pA pn pc] 57)):=(vQ _ _).alloc (bQ _) _;exact⟨hS,hms.keep hb hms.lt,aI.then_below hb⟩
      have rt:w6.heap.size<=W.heap.size:=by obtain⟨_,_,aI⟩:=hI;exact aI.size
      clear hI br;gi_wp2;refine⟨λk=>S k\/k=W.heap.size,(RdStep.refl S W).alloc _,λk e=>e.imp id (λh=>by omega),λk e=>by rcases e with e | e;have:=fq k e;simp;omega;simp;omega,?_⟩;intro l' W₂ ay;obtain⟨E,hE⟩:=aCQ W.heap.size;obtain⟨hS,hms,aI⟩:=LK w6 Mb pre S _ W₂ mg (ay.weaken (bQ _) (λk e=>.inl e));have ku:=ay.size;simp only[World.size_alloc] at ku;have fO:W₂.heap[E]?=some (.cells #[.string xz,.string xs,.int .i64 xty,.int .i64 xlf,.slice dA dn dc,.slice gA gn gc,.slice fA fn fc,.slice pA pn pc] 57 (0,0)):=by rw[<-hE];exact (ay.keep W.heap.size (by simp) (.inr (.inr rfl))).trans (heap_alloc_new _ _)
      rw[hE] at ku rt |-;have d0:W₂.cell? ⟨E,0,none⟩=some (.string xz):=(by simp[World.cell?,fO]);have d1:W₂.cell? ⟨E,1,none⟩=some (.string xs):=(by simp[World.cell?,fO]);have d2:W₂.cell? ⟨E,2,none⟩=some (.int .i64 xty):=(by simp[World.cell?,fO]);have d3:W₂.cell? ⟨E,3,none⟩=some (.int .i64 xlf):=(by simp[World.cell?,fO]);have d4:W₂.cell? ⟨E,4,none⟩=some (.slice dA dn dc):=(by simp[World.cell?,fO]);have d5:W₂.cell? ⟨E,5,none⟩=some (.slice gA gn gc):=(by simp[World.cell?,fO]);have xb:Hid (lu W₂ E [.string xz,.string xs,.int .i64 xty,.int .i64 xlf,.slice dA dn dc,.slice gA gn gc]):=jq (λi v hi=>by
       match i,hi with
       | 0,hi=>cases hi;exact d0
       | 1,hi=>cases hi;exact d1
       | 2,hi=>cases hi;exact d2
       | 3,hi=>cases hi;exact d3
       | 4,hi=>cases hi;exact d4
       | 5,hi=>cases hi;exact d5
       | i+6,hi=>simp at hi)
      have Dj:¬ S E:=λe=>by have:=fq _ e;omega
      have lA:=jq (zd.out _ zD.out);have om:=jq (ze.out _ zD.out);have fJ:=jq hS;have sM:=jq hms;have sO:=jq aI;have ot:Hid (Boxed W₂ (Mb+1) 136 (.map (some Mb))):=jq (CU CG.out aI (by omega));have Fn:Hid (SlR bK 3 W₂ W₂.heap.size (.slice dA dn dc) cc.signed.set.data):=jq ((lA.out.data.keep cM (aI.below (n:=w4.heap.size) (by omega) (λk e=>by omega))).more dt (by omega));have SH:Hid (SlR dl 6 W₂ W₂.heap.size (.slice gA gn gc) cc.signed.sigs):=jq ((lA.out.sigs.keep dD (aI.below (n:=w4.heap.size) (by omega) (λk e=>by omega))).more eu (by omega));have kH:Hid (fK W₂):=jq (og.out.keepAt (aI.below (n:=Mb) (by omega) (λk e=>by omega)) zi.out);have K5:Hid ((⟨⟨xs.data.toList,xty,xlf,cc.signed.set.data⟩,cc.signed.sigs⟩:Np.Signed)=cc.signed):=jq (by have h1:=lA.out.name;have h2:=lA.out.type;have h3:=lA.out.life;dsimp only at h1 h2 h3;rw[h1,h2,h3]);have zw:Hid (wK cc=(xz.data.toList,Np.de cc.signed)):=jq (by have h1:=lA.out.zone;dsimp only at h1;unfold wK;rw[h1]);have bO:Hid (tks (pre ++ [(⟨xz,xs,xty,xlf,dA,dn,dc,gA,gn,gc,fA,fn,fc,pA,pn,pc⟩,cc)])=Np.iC (tks pre) (wK cc)):=jq arY;have wk:E<W₂.heap.size:=by omega
      obtain⟨ks,jM⟩:=aCQ (tks pre);rw[jM] at sM bO;have bm:=ot.out.cell;clear ay mg jM hms aI fO hE hS;gi_wp2_with fail;have dS:Below W₂.heap.size W₂ W₂.drew:=(vQ _ _).drew;obtain⟨w8,eZ⟩:=aCQ W₂.drew;rw[eZ] at dS;have qL:w8.heap.size=W₂.heap.size:=by rw[<-eZ];rfl
      have ew:=jq dS;have zC:=jq (aEX ot.out dS);have fk:=jq (xb.out.keep dS wk);clear d0 d1 d2 d3 d4 d5 bm dS;have d0:=fk.out 0 _ rfl;have d1:=fk.out 1 _ rfl;have d2:=fk.out 2 _ rfl;have d3:=fk.out 3 _ rfl;have d4:=fk.out 4 _ rfl;have d5:=fk.out 5 _ rfl;have bm:=zC.out.cell;refine B5 λa0 cJ=>?_;have kC:=jq cJ;have yR:=jq (show a0.eval (.tmp 10) = .pointer (some ⟨Mb+1,0,none⟩) by rw[cJ];rfl);have ud:=jq (show a0.eval (.tmp 11) = .pointer (some ⟨E,0,none⟩) by rw[cJ];rfl);have HM:=jq (show a0.tmps.size=81 by rw[cJ];rfl);clear cJ;refine EP (by kernel_rfl) (by kernel_rfl) (by rintro⟨_,_,h⟩;exact h) ?_
      try rw[show ({ heap:=W₂.heap,tape:=W₂.tape,drawn:=W₂.drawn+1,os:=W₂.os,output:=W₂.output } : World)=w8 from eZ]
      try rw[eZ]
      refine fS 5 (D:=[0,1,2,3,4]) (val:=ru E Mb xz xs xty xlf dA dn dc gA gn gc undef) Dy He (vp HM.out) (by kernel_rfl) ?_ ?_
      ·intro i aG bn o ho a' hb aF;have k10':=aEJ hb yR.out;have k11':=aEJ hb ud.out;simp[Act.eval] at k10' k11'
       repeat' (rcases aG with _ | ⟨_,aG⟩)
       all_goals first
        | (exfalso;simp at bn;done)
        | (cases ho
           try simp[Act.eval,Region.binds,ru,qB] at aF
           refine fw (by simp[Region.wanted]) ?_;simp[Oper.quietAt,Oper.quietUpon,execOp,go_sem,ru,k10',k11',bm,d0,d1,d2,d3,d4,d5,aF])
      ·intro f listed a' hH hr hv;have av4:=hv 4;simp[Act.eval,ru,qB] at av4;simp only[wpOp];simp[Region.wanted];refine .inl ?_;simp[Oper.wp,go_sem,av4];refine (IK xs xty xlf _ _ cc.signed.set.data cc.signed.sigs w8 (kH.out.keep ew.out) (by rw[K5.out];exact om.out.1) (Fn.out.later cM dt ew.out) (SH.out.later dD eu ew.out)).mono ?_;rw[K5.out];rintro e w9 ⟨rfl,hb⟩;have tN:=hb.size;have eS:Hid (Below W₂.heap.size W₂ w9):=aBY ew hb;have gL:=jq (fk.out.keep hb (by omega));have Gn:=jq (aEX zC.out hb);have FG:Hid (iP Mb (kvT ks) w9):=jq (sM.out.keep eS.out sM.out.lt);obtain⟨wU,qH,nH,cu⟩:=alZ w9 136 4 underlying136 Mb _ FG.out (xz.data.toList,Np.de cc.signed) (.bool true) (OS (ks:=ks)).2;rw[(OS (ks:=ks)).1] at nH;replace qH:(Instr.mapUpdate 136 (.map (some Mb)) (.agg #[.string xz,av (Np.de cc.signed)]) (.bool true)).run prog w9 = .ok () wU:=qH;have ob:Hid (iP Mb (kvT (tks (pre ++ [(⟨xz,xs,xty,xlf,dA,dn,dc,gA,gn,gc,fA,fn,fc,pA,pn,pc⟩,cc)]))) wU):=jq (by rw[bO.out,zw.out];exact nH);have sR:=jq cu;have D7:=cu.size;clear hb d0 d1 d2 d3 d4 d5 bm nH cu;have d0:=gL.out 0 _ rfl;have d1:=gL.out 1 _ rfl;have d2:=gL.out 2 _ rfl;have d3:=gL.out 3 _ rfl;have d4:=gL.out 4 _ rfl;have d5:=gL.out 5 _ rfl;have bm:=Gn.out.cell;dsimp only;refine fS 7 (D:=[0,1,2,3,4,6,5]) (val:=ru E Mb xz xs xty xlf dA dn dc gA gn gc (av (Np.de cc.signed))) Dy He (hH.next Dy He hr) (by kernel_rfl) ?_ ?_
       ·intro i aG bn o ho a' hb aF;have k10':=aEJ hb yR.out;have k11':=aEJ hb ud.out;simp[Act.eval] at k10' k11'
        repeat' (rcases aG with _ | ⟨_,aG⟩)
        all_goals first
         | (exfalso;simp at bn;done)
         | (cases ho
            try simp[Act.eval,Region.binds,ru,qB] at aF
            refine fw (by simp[Region.wanted]) ?_;simp[Oper.quietAt,Oper.quietUpon,execOp,go_sem,ru,k10',k11',bm,d0,d1,d2,d3,d4,d5,aF])
       ·intro f listed a' hH hr hv;have av0:=hv 0;have av6:=hv 6;simp[Act.eval,ru,qB] at av0 av6;simp only[wpOp];simp[Region.wanted];refine .inl ?_;simp[Oper.wp,execOp,go_sem,av0,av6,qH,Result.andThen];refine sr hH hr HM.out Dy (by kernel_rfl) λfH=>?_
        ·rw[fH,kC.out];simp[kA,Act.put,ru,qB];clear hv hH fH;clear d0 d1 d2 d3 d4 d5 bm qH;have fV:Hid (RdStep (λk=>S k\/k=E) W₂ wU):=jq ⟨sR.out.os.trans eS.out.os,sR.out.tape.trans eS.out.tape,sR.out.output.trans eS.out.output,by have:=eS.out.size;omega,λk hk mp=>(sR.out.block k (λe=>mp (.inl ((fJ.out k).2 e)))).trans (eS.out.block k hk)⟩;have SA:Hid (RdStep (λk=>k=Mb) w6 wU):=jq ((sO.out.then_below eS.out).trans (S':=λk=>k=Mb) ⟨sR.out.os,sR.out.tape,sR.out.output,by omega,λk _ mp=>sR.out.block k mp⟩ (λk e=>.inl e));gi_wp2_with fail;exact⟨λk=>k=Mb,fV.out,λk e=>.inl (.inl ((fJ.out k).2 e)),λk e=>by have:=ob.out.lt;omega,λk=>Iff.rfl,ob.out,SA.out⟩
end
end Go.Proofs.YtfnopgdcaanaiaaGreatDoor
