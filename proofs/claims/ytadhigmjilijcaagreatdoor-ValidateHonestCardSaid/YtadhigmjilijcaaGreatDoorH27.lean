/- No condition. -/
import Derived.Test.YtadhigmjilijcaaGreatDoorH26
set_option linter.all false
set_option maxRecDepth 100000
set_option maxHeartbeats 8000000
namespace Go.Proofs.YtadhigmjilijcaaGreatDoor
open Go.Proofs.Tryz
section
open Go.RowKit
theorem kx{ops:Array Oper}{tmps:Array Value}{j d:Nat}(hd:(ops[j]?).bind (·.dst)=some d):yielded ops tmps j=(match tmps[d]?.getD undef with | .bool b=>some b | _=>none):=by
 unfold yielded;rw[hd];show (match tmps[d]? with | some (.bool b)=>some b | _=>none)=_
 cases tmps[d]? with
 | none=>rfl
 | some v=>cases v<;>rfl
def k9(V:Nat)(q ty:Int)(g:Bool)(e2:Value)(e3:Value)(i:Nat):Value:=[.pointer (some ⟨V,0,none⟩),.int .i64 q,e2,e3,.int .i64 q,.bool g,.bool g,(cond g (.pointer (some ⟨V,0,none⟩)) undef),(cond g (.pointer (some ⟨V,0,none⟩)) undef),(cond g (.pointer (some ⟨V,3,none⟩)) undef),(cond g (.pointer (some ⟨V,4,none⟩)) undef),(cond g (.int .i64 ty) undef),(cond g (.bool (ty != 8)) undef),.bool (g&&ty != 8),undef,undef].getD i undef
def jF(i:Nat):Nat:=[12,13,14,15,16,17,18,19,20,21,22,23,24,25,1,3].getD i 0
def aSQ:List Nat:=[0,1,4,5,6,7,8,9,10,11,12,13,2,3].map jF
theorem C0:∀ i∈[0,1,4,5,6,7,8,9,10,11,12,13,2,3],jF i<26/\jF i∈aSQ:=by decide
theorem C1:∀ i∈[0,1,4,5,6,7,8,9,10,11,12,13,2,3],∀ j∈[0,1,4,5,6,7,8,9,10,11,12,13,2,3],j≠i->jF i≠jF j:=by decide
def aSZ:List Nat:=[0,1,4,5,6,7,8,9,10,11,12,13,2,3,14].map jF
theorem St:∀ i∈[0,1,4,5,6,7,8,9,10,11,12,13,2,3,14],jF i<26/\jF i∈aSZ:=by decide
theorem aRY:∀ i∈[0,1,4,5,6,7,8,9,10,11,12,13,2,3,14],∀ j∈[0,1,4,5,6,7,8,9,10,11,12,13,2,3,14],j≠i->jF i≠jF j:=by decide
def iT(V:Nat)(q ty:Int)(nm:ByteArray)(g:Bool)(e8:Value)(e9:Value)(e10:Value)(i:Nat):Value:=[.pointer (some ⟨V,0,none⟩),.int .i64 q,.pointer (some ⟨V,0,none⟩),.pointer (some ⟨V,0,none⟩),.pointer (some ⟨V,0,none⟩),.pointer (some ⟨V,3,none⟩),.pointer (some ⟨V,3,none⟩),.string nm,e8,e9,e10,.int .i64 q,.bool g,.bool g,(cond g (.pointer (some ⟨V,0,none⟩)) undef),(cond g (.pointer (some ⟨V,0,none⟩)) undef),(cond g (.pointer (some ⟨V,3,none⟩)) undef),(cond g (.pointer (some ⟨V,4,none⟩)) undef),(cond g (.int .i64 ty) undef),(cond g (.bool (ty != 8)) undef),.bool (g&&ty != 8),undef,undef].getD i undef
def iS(i:Nat):Nat:=[11,12,13,14,15,16,17,18,19,20,21,22,23,24,25,26,27,28,29,30,31,1,3].getD i 0
def aTY:List Nat:=[0,1,2,3,4,5,6,7,11,12,13,14,15,16,17,18,19,20,8,9,10].map iS
theorem xM:∀ i∈[0,1,2,3,4,5,6,7,11,12,13,14,15,16,17,18,19,20,8,9,10],iS i<32/\iS i∈aTY:=by decide
theorem xN:∀ i∈[0,1,2,3,4,5,6,7,11,12,13,14,15,16,17,18,19,20,8,9,10],∀ j∈[0,1,2,3,4,5,6,7,11,12,13,14,15,16,17,18,19,20,8,9,10],j≠i->iS i≠iS j:=by decide
def aUQ:List Nat:=[0,1,2,3,4,5,6,7,11,12,13,14,15,16,17,18,19,20,8,9,10,21].map iS
theorem Sv:∀ i∈[0,1,2,3,4,5,6,7,11,12,13,14,15,16,17,18,19,20,8,9,10,21],iS i<32/\iS i∈aUQ:=by decide
theorem aTX:∀ i∈[0,1,2,3,4,5,6,7,11,12,13,14,15,16,17,18,19,20,8,9,10,21],∀ j∈[0,1,2,3,4,5,6,7,11,12,13,14,15,16,17,18,19,20,8,9,10,21],j≠i->iS i≠iS j:=by decide
theorem ahX(k:VwS)(eW:VhOk k)(wd:ByteArray)(bp:WdH k wd)(w:World)(h:VwIn k wd w) :
 Calls prog 73 #[.pointer (some ⟨k.V,0,none⟩)] w (rF k w):=by
 have hk:=eW.ok;have oP:=jq eW;have jd:=jq bp;obtain⟨R,hR⟩:=aaK w.heap.size;obtain⟨wa,HK,dw,gr,ja,lV,iA,bo⟩:=yp hk h hR;clear hk eW bp;go_enter func73,ntmps73;have c3:=dw.out.cells 3 _ rfl;go_wp2_with fail
 try rw[bo]
 try clear bo
 refine (vL HK.out dw.out k.nm 3).mono ?_;rintro e wp ⟨q,gI,eA,rfl,-,mT,ae⟩;have wD:=jq mT;clear mT;have iH:=jq (gr.out.trans (ae.mono gr.out.size));have eZ:=jq (dw.out.keep HK.out ae dw.out.lt);have lJ:=jq ((ae.block R (by omega)).trans ja.out);have oo:R+1<=wp.heap.size:=yQ lV ae.size;have c4:=eZ.out.cells 4 _ rfl;clear ae c3;go_upto_region 2 with fail
 obtain⟨g,hd⟩:=aaK (decide (0<=q));obtain⟨wd0,bl⟩:=aaX wp.drew;have ae:Below wp.heap.size wp wd0:=by rw[bl];exact (vQ _ _).drew
 have nk:=jq (iH.out.trans (ae.mono iH.out.size));have gx:=jq (eZ.out.keep HK.out ae eZ.out.lt);have sW:=jq ((ae.block R (by omega)).trans lJ.out);have tq:R+1<=wd0.heap.size:=yQ oo ae.size;replace c4:=gx.out.cells 4 _ rfl;clear ae;refine yz λa0 bD=>?_;have jt:=jq bD;have fi:=jq (show a0.eval (.tmp 0) = .pointer (some ⟨k.V,0,none⟩) by rw[bD];rfl);have eM:=jq (show a0.eval (.tmp 1)=undef by rw[bD];rfl);have eC:=jq (show a0.eval (.tmp 2) = .pointer (some ⟨R,0,none⟩) by rw[bD];rfl);have n9:=jq (show a0.eval (.tmp 4) = .int .i64 q by rw[bD];rfl);have HM:=jq (show a0.tmps.size=26 by rw[bD];rfl);clear bD;refine wp_region_any (by kernel_rfl) ?_;change wpAny prog .any _ _ _ _ _ wp.drew;rw[<-bl];clear bl;refine cM 2 (D:=[0,1,4,5,6,7,8,9,10,11,12,13]) (val:=k9 k.V q k.ty g undef undef) C0 C1 (rR HM.out) (by kernel_rfl) ?_ ?_
 ·intro i au aI o ho a' hb ao;have k0':=adJ hb fi.out;have k4':=adJ hb n9.out;simp[Act.eval] at k0' k4'
  repeat' (rcases au with _ | ⟨_,au⟩)
  all_goals first
   | (exfalso;simp at aI;done)
   | (cases ho
      cases g <;>
       (try simp[Act.eval,Region.binds,k9,jF] at ao
        first
        | (refine cC ?_ ?_
           ·simp[Region.wanted,kx (j:=6) (d:=18),ao];done
           ·simp[Oper.quietAt,Oper.quietUpon,execOp,go_sem,k9,k0',k4',c4,hd,ao])
        | (refine .inr ⟨?_,rfl⟩
           simp[Region.wanted,kx (j:=6) (d:=18),ao])))
 ·intro f listed a' hH hr hv;have av1:=hv 1;simp[Act.eval,k9,jF] at av1;simp only[wpOp];simp[Region.wanted];refine .inl ?_;simp[Oper.wp,execOp,go_sem,av1];obtain⟨wx,bl⟩:=aaX (wd0.alloc (.cells #[.int .i64 q] 3));rw[<-bl];have ae:Below wd0.heap.size wd0 wx:=by rw[bl];exact blAl
  have HP:=jq (yi (w:=wx) (B:=wx.heap.size) (b:=wd0.heap.size) [q] (jf [.int .i64 q] 3 rfl bl.symm) (by rw[bl];simp) rfl (by simp));have kF:=jq (nk.out.trans (ae.mono nk.out.size));have fh:=jq (gx.out.keep HK.out ae gx.out.lt);have pU:=jq ((ae.block R (by omega)).trans sW.out);have kO:R+1<=wx.heap.size:=yQ tq ae.size;replace c4:=fh.out.cells 4 _ rfl;clear bl ae;refine cM 3 (D:=[0,1,4,5,6,7,8,9,10,11,12,13,2]) (val:=k9 k.V q k.ty g (.slice (some ⟨wd0.heap.size,0,none⟩) 1 1) undef) C0 C1 (hH.next C0 C1 hr) (by kernel_rfl) ?_ ?_
  ·intro i au aI o ho a' hb ao;have k0':=adJ hb fi.out;have k4':=adJ hb n9.out;simp[Act.eval] at k0' k4'
   repeat' (rcases au with _ | ⟨_,au⟩)
   all_goals first
    | (exfalso;simp at aI;done)
    | (cases ho
       cases g <;>
        (try simp[Act.eval,Region.binds,k9,jF] at ao
         first
         | (refine cC ?_ ?_
            ·simp[Region.wanted,kx (j:=6) (d:=18),ao];done
            ·simp[Oper.quietAt,Oper.quietUpon,execOp,go_sem,k9,k0',k4',c4,hd,ao])
         | (refine .inr ⟨?_,rfl⟩
            simp[Region.wanted,kx (j:=6) (d:=18),ao])))
  ·intro f listed a' hH hr hv;have av0:=hv 0;have av2:=hv 2;simp[Act.eval,k9,jF] at av0 av2;simp only[wpOp];simp[Region.wanted];refine .inl ?_;simp[Oper.wp,go_sem,av0,av2];refine (vK HK.out fh.out 3 [q] 1 rfl (by decide) (λp hp=>by simp only[List.mem_cons,Qh,or_false] at hp;omega) _ 1 HP.out).mono ?_;rintro e wy ⟨aA,an,ac,la,rfl,dU,har,ae⟩;have g9:=jq dU;have iG:=jq (har.less kO);clear dU har;have mu:=jq (kF.out.trans (ae.mono kF.out.size));have iI:=jq (fh.out.keep HK.out ae fh.out.lt);have hU:=jq ((ae.block R (by omega)).trans pU.out);have Cu:R+1<=wy.heap.size:=yQ kO ae.size;replace c4:=iI.out.cells 4 _ rfl;clear ae;dsimp only;refine cM 14 (D:=[0,1,4,5,6,7,8,9,10,11,12,13,2,3]) (val:=k9 k.V q k.ty g (.slice (some ⟨wd0.heap.size,0,none⟩) 1 1) (.agg #[.int .i64 3,.slice aA an ac,.string ⟨#[]⟩])) C0 C1 (hH.next C0 C1 hr) (by kernel_rfl) ?_ ?_
   ·intro i au aI o ho a' hb ao;have k0':=adJ hb fi.out;have k4':=adJ hb n9.out;simp[Act.eval] at k0' k4'
    repeat' (rcases au with _ | ⟨_,au⟩)
    all_goals first
     | (exfalso;simp at aI;done)
     | (cases ho
        cases g <;>
         (try simp[Act.eval,Region.binds,k9,jF] at ao
          first
          | (refine cC ?_ ?_
             ·simp[Region.wanted,kx (j:=6) (d:=18),ao];done
             ·simp[Oper.quietAt,Oper.quietUpon,execOp,go_sem,k9,k0',k4',c4,hd,ao])
          | (refine .inr ⟨?_,rfl⟩
             simp[Region.wanted,kx (j:=6) (d:=18),ao])))
   ·intro f listed a' hH hr hv;have av3:=hv 3;simp[Act.eval,k9,jF] at av3;simp only[wpOp];simp[Region.wanted];refine .inl ?_;have kR:=fD [_,_,_] hU.out;have kR0:=kR 0 _ rfl;have kR1:=kR 1 _ rfl;have kR2:=kR 2 _ rfl;have fR:∀ i,wy.frozen? ⟨R,i,none⟩=false:=λi=>by simp[World.frozen?,hU.out]
    have k2':=(aM hH.good.base (j:=2) (by decide) (by decide)).trans eC.out;simp[Act.eval] at k2';simp[Oper.wp,execOp,go_sem,av3,kR0,kR1,kR2,fR,k2'];obtain⟨ws,bl⟩:=aaX (((wy.setCell ⟨R,0,none⟩ (.int .i64 3)).setCell ⟨R,1,none⟩ (.slice aA an ac)).setCell ⟨R,2,none⟩ (.string ⟨#[]⟩));rw[<-bl];have ae:Below R wy ws:=by rw[bl];exact (((vQ R wy).blSe _).blSe _).blSe _
    have uj:=aaZ mu ae;have my:=jq (iI.out.keep HK.out ae iA);replace c4:=my.out.cells 4 _ rfl;clear ae kR kR0 kR1 kR2 fR k2';refine cM 15 (D:=[0,1,4,5,6,7,8,9,10,11,12,13,2,3,14]) (val:=k9 k.V q k.ty g (.slice (some ⟨wd0.heap.size,0,none⟩) 1 1) (.agg #[.int .i64 3,.slice aA an ac,.string ⟨#[]⟩])) St aRY (hH.skip hr (hv:=eM.out.symm)) (by kernel_rfl) ?_ ?_
    ·intro i au aI o ho a' hb ao;have k0':=adJ hb fi.out;have k4':=adJ hb n9.out;simp[Act.eval] at k0' k4'
     repeat' (rcases au with _ | ⟨_,au⟩)
     all_goals first
      | (exfalso;simp at aI;done)
      | (cases ho
         cases g <;>
          (try simp[Act.eval,Region.binds,k9,jF] at ao
           first
           | (refine cC ?_ ?_
              ·simp[Region.wanted,kx (j:=6) (d:=18),ao];done
              ·simp[Oper.quietAt,Oper.quietUpon,execOp,go_sem,k9,k0',k4',c4,hd,ao])
           | (refine .inr ⟨?_,rfl⟩
              simp[Region.wanted,kx (j:=6) (d:=18),ao])))
    ·intro f listed a' hH hr hv;have av13:=hv 13;simp[Act.eval,k9,jF] at av13;simp only[wpOp];simp[Region.wanted];refine .inl ?_;simp[Oper.wp,execOp,go_sem,av13];refine nU hH hr HM.out St (by kernel_rfl) λeO=>?_;rw[eO];rw[jt.out];simp[kq,Act.put,k9,jF];clear hv hH eO;rw[bl];clear bl;go_wp2_with fail;exact ri jd.out rfl HK.out iI.out (qf mu.out) hR iA hU.out 3 aA an ac ⟨#[]⟩ _ (by decide) la iG.out (λ_=>Np.uG g9.out (λp hp=>by simp only[List.mem_cons,Qh,or_false] at hp;subst hp;exact wD.out.imp λx h=>Np.T0 h (.inl rfl))) _ rfl rfl rfl
theorem bMK(k:VwS)(eW:VhOk k)(wd:ByteArray)(bp:WdH k wd)(w:World)(h:VwIn k wd w) :
 Calls prog 76 #[.pointer (some ⟨k.V,0,none⟩)] w (rF k w):=by
 have hk:=eW.ok;have oP:=jq eW;have jd:=jq bp;obtain⟨R,hR⟩:=aaK w.heap.size;obtain⟨wa,HK,dw,gr,ja,lV,iA,bo⟩:=yp hk h hR;clear hk eW bp;go_enter func76,ntmps76;have c7:=dw.out.cells 7 _ rfl;go_wp2_with fail
 try rw[bo]
 try clear bo
 refine (vL HK.out dw.out wd 3).mono ?_;rintro e wp ⟨q,gI,eA,rfl,-,mT,ae⟩;have wD:=jq (jd.out.has HK.out mT);clear mT;have iH:=jq (gr.out.trans (ae.mono gr.out.size));have eZ:=jq (dw.out.keep HK.out ae dw.out.lt);have lJ:=jq ((ae.block R (by omega)).trans ja.out);have oo:R+1<=wp.heap.size:=yQ lV ae.size;have c3:=eZ.out.cells 3 _ rfl;have c4:=eZ.out.cells 4 _ rfl;clear ae c7;go_upto_region 2 with fail
 obtain⟨g,hd⟩:=aaK (decide (0<=q));obtain⟨wd0,bl⟩:=aaX wp.drew;have ae:Below wp.heap.size wp wd0:=by rw[bl];exact (vQ _ _).drew
 have nk:=jq (iH.out.trans (ae.mono iH.out.size));have gx:=jq (eZ.out.keep HK.out ae eZ.out.lt);have sW:=jq ((ae.block R (by omega)).trans lJ.out);have tq:R+1<=wd0.heap.size:=yQ oo ae.size;replace c3:=gx.out.cells 3 _ rfl;replace c4:=gx.out.cells 4 _ rfl;clear ae;refine yz λa0 bD=>?_;have jt:=jq bD;have fi:=jq (show a0.eval (.tmp 0) = .pointer (some ⟨k.V,0,none⟩) by rw[bD];rfl);have eM:=jq (show a0.eval (.tmp 1)=undef by rw[bD];rfl);have eC:=jq (show a0.eval (.tmp 2) = .pointer (some ⟨R,0,none⟩) by rw[bD];rfl);have n9:=jq (show a0.eval (.tmp 4) = .int .i64 q by rw[bD];rfl);have HM:=jq (show a0.tmps.size=32 by rw[bD];rfl);clear bD;refine wp_region_any (by kernel_rfl) ?_;change wpAny prog .any _ _ _ _ _ wp.drew;rw[<-bl];clear bl;refine cM 8 (D:=[0,1,2,3,4,5,6,7,11,12,13,14,15,16,17,18,19,20]) (val:=iT k.V q k.ty k.nm g undef undef undef) xM xN (rR HM.out) (by kernel_rfl) ?_ ?_
 ·intro i au aI o ho a' hb ao;have k0':=adJ hb fi.out;have k4':=adJ hb n9.out;simp[Act.eval] at k0' k4'
  repeat' (rcases au with _ | ⟨_,au⟩)
  all_goals first
   | (exfalso;simp at aI;done)
   | (cases ho
      cases g <;>
       (try simp[Act.eval,Region.binds,iT,iS] at ao
        first
        | (refine cC ?_ ?_
           ·simp[Region.wanted,kx (j:=13) (d:=24),ao];done
           ·simp[Oper.quietAt,Oper.quietUpon,execOp,go_sem,iT,k0',k4',c3,c4,hd,ao])
        | (refine .inr ⟨?_,rfl⟩
           simp[Region.wanted,kx (j:=13) (d:=24),ao])))
 ·intro f listed a' hH hr hv;have av2:=hv 2;have av7:=hv 7;simp[Act.eval,iT,iS] at av2 av7;simp only[wpOp];simp[Region.wanted];refine .inl ?_;simp[Oper.wp,go_sem,av2,av7];refine (yv HK.out gx.out k.nm HK.out.nm2 HK.out.nm1).mono ?_;rintro e wc ⟨qc,Gb,Gc,nI,rfl,ae⟩;have sS:=jq nI;clear nI;have nj:=jq (nk.out.trans (ae.mono nk.out.size));have im:=jq (gx.out.keep HK.out ae gx.out.lt);have sV:=jq ((ae.block R (by omega)).trans sW.out);have tp:R+1<=wc.heap.size:=yQ tq ae.size;replace c3:=im.out.cells 3 _ rfl;replace c4:=im.out.cells 4 _ rfl;clear ae;dsimp only;refine cM 9 (D:=[0,1,2,3,4,5,6,7,11,12,13,14,15,16,17,18,19,20,8]) (val:=iT k.V q k.ty k.nm g (.int .i64 qc) undef undef) xM xN (hH.next xM xN hr) (by kernel_rfl) ?_ ?_
  ·intro i au aI o ho a' hb ao;have k0':=adJ hb fi.out;have k4':=adJ hb n9.out;simp[Act.eval] at k0' k4'
   repeat' (rcases au with _ | ⟨_,au⟩)
   all_goals first
    | (exfalso;simp at aI;done)
    | (cases ho
       cases g <;>
        (try simp[Act.eval,Region.binds,iT,iS] at ao
         first
         | (refine cC ?_ ?_
            ·simp[Region.wanted,kx (j:=13) (d:=24),ao];done
            ·simp[Oper.quietAt,Oper.quietUpon,execOp,go_sem,iT,k0',k4',c3,c4,hd,ao])
         | (refine .inr ⟨?_,rfl⟩
            simp[Region.wanted,kx (j:=13) (d:=24),ao])))
  ·intro f listed a' hH hr hv;have av1:=hv 1;have av8:=hv 8;simp[Act.eval,iT,iS] at av1 av8;simp only[wpOp];simp[Region.wanted];refine .inl ?_;simp[Oper.wp,execOp,go_sem,av1,av8];obtain⟨wx,bl⟩:=aaX (wc.alloc (.cells #[.int .i64 q,.int .i64 qc] 3));rw[<-bl];have ae:Below wc.heap.size wc wx:=by rw[bl];exact blAl
   have HP:=jq (yi (w:=wx) (B:=wx.heap.size) (b:=wc.heap.size) [q,qc] (jf [.int .i64 q,.int .i64 qc] 3 rfl bl.symm) (by rw[bl];simp) rfl (by simp));have kF:=jq (nj.out.trans (ae.mono nj.out.size));have fh:=jq (im.out.keep HK.out ae im.out.lt);have pU:=jq ((ae.block R (by omega)).trans sV.out);have kO:R+1<=wx.heap.size:=yQ tp ae.size;replace c3:=fh.out.cells 3 _ rfl;replace c4:=fh.out.cells 4 _ rfl;clear bl ae;refine cM 10 (D:=[0,1,2,3,4,5,6,7,11,12,13,14,15,16,17,18,19,20,8,9]) (val:=iT k.V q k.ty k.nm g (.int .i64 qc) (.slice (some ⟨wc.heap.size,0,none⟩) 2 2) undef) xM xN (hH.next xM xN hr) (by kernel_rfl) ?_ ?_
   ·intro i au aI o ho a' hb ao;have k0':=adJ hb fi.out;have k4':=adJ hb n9.out;simp[Act.eval] at k0' k4'
    repeat' (rcases au with _ | ⟨_,au⟩)
    all_goals first
     | (exfalso;simp at aI;done)
     | (cases ho
        cases g <;>
         (try simp[Act.eval,Region.binds,iT,iS] at ao
          first
          | (refine cC ?_ ?_
             ·simp[Region.wanted,kx (j:=13) (d:=24),ao];done
             ·simp[Oper.quietAt,Oper.quietUpon,execOp,go_sem,iT,k0',k4',c3,c4,hd,ao])
          | (refine .inr ⟨?_,rfl⟩
             simp[Region.wanted,kx (j:=13) (d:=24),ao])))
   ·intro f listed a' hH hr hv;have av0:=hv 0;have av9:=hv 9;simp[Act.eval,iT,iS] at av0 av9;simp only[wpOp];simp[Region.wanted];refine .inl ?_;simp[Oper.wp,go_sem,av0,av9];refine (vK HK.out fh.out 3 [q,qc] 2 rfl (by decide) (λp hp=>by simp only[List.mem_cons,Qh,or_false] at hp;omega) _ 2 HP.out).mono ?_;rintro e wy ⟨aA,an,ac,la,rfl,dU,har,ae⟩;have g9:=jq dU;have iG:=jq (har.less kO);clear dU har;have mu:=jq (kF.out.trans (ae.mono kF.out.size));have iI:=jq (fh.out.keep HK.out ae fh.out.lt);have hU:=jq ((ae.block R (by omega)).trans pU.out);have Cu:R+1<=wy.heap.size:=yQ kO ae.size;replace c3:=iI.out.cells 3 _ rfl;replace c4:=iI.out.cells 4 _ rfl;clear ae;dsimp only;refine cM 21 (D:=[0,1,2,3,4,5,6,7,11,12,13,14,15,16,17,18,19,20,8,9,10]) (val:=iT k.V q k.ty k.nm g (.int .i64 qc) (.slice (some ⟨wc.heap.size,0,none⟩) 2 2) (.agg #[.int .i64 3,.slice aA an ac,.string ⟨#[]⟩])) xM xN (hH.next xM xN hr) (by kernel_rfl) ?_ ?_
    ·intro i au aI o ho a' hb ao;have k0':=adJ hb fi.out;have k4':=adJ hb n9.out;simp[Act.eval] at k0' k4'
     repeat' (rcases au with _ | ⟨_,au⟩)
     all_goals first
      | (exfalso;simp at aI;done)
      | (cases ho
         cases g <;>
          (try simp[Act.eval,Region.binds,iT,iS] at ao
           first
           | (refine cC ?_ ?_
              ·simp[Region.wanted,kx (j:=13) (d:=24),ao];done
              ·simp[Oper.quietAt,Oper.quietUpon,execOp,go_sem,iT,k0',k4',c3,c4,hd,ao])
           | (refine .inr ⟨?_,rfl⟩
              simp[Region.wanted,kx (j:=13) (d:=24),ao])))
    ·intro f listed a' hH hr hv;have av10:=hv 10;simp[Act.eval,iT,iS] at av10;simp only[wpOp];simp[Region.wanted];refine .inl ?_;have kR:=fD [_,_,_] hU.out;have kR0:=kR 0 _ rfl;have kR1:=kR 1 _ rfl;have kR2:=kR 2 _ rfl;have fR:∀ i,wy.frozen? ⟨R,i,none⟩=false:=λi=>by simp[World.frozen?,hU.out]
     have k2':=(aM hH.good.base (j:=2) (by decide) (by decide)).trans eC.out;simp[Act.eval] at k2';simp[Oper.wp,execOp,go_sem,av10,kR0,kR1,kR2,fR,k2'];obtain⟨ws,bl⟩:=aaX (((wy.setCell ⟨R,0,none⟩ (.int .i64 3)).setCell ⟨R,1,none⟩ (.slice aA an ac)).setCell ⟨R,2,none⟩ (.string ⟨#[]⟩));rw[<-bl];have ae:Below R wy ws:=by rw[bl];exact (((vQ R wy).blSe _).blSe _).blSe _
     have uj:=aaZ mu ae;have my:=jq (iI.out.keep HK.out ae iA);replace c3:=my.out.cells 3 _ rfl;replace c4:=my.out.cells 4 _ rfl;clear ae kR kR0 kR1 kR2 fR k2';refine cM 22 (D:=[0,1,2,3,4,5,6,7,11,12,13,14,15,16,17,18,19,20,8,9,10,21]) (val:=iT k.V q k.ty k.nm g (.int .i64 qc) (.slice (some ⟨wc.heap.size,0,none⟩) 2 2) (.agg #[.int .i64 3,.slice aA an ac,.string ⟨#[]⟩])) Sv aTX (hH.skip hr (hv:=eM.out.symm)) (by kernel_rfl) ?_ ?_
     ·intro i au aI o ho a' hb ao;have k0':=adJ hb fi.out;have k4':=adJ hb n9.out;simp[Act.eval] at k0' k4'
      repeat' (rcases au with _ | ⟨_,au⟩)
      all_goals first
       | (exfalso;simp at aI;done)
       | (cases ho
          cases g <;>
           (try simp[Act.eval,Region.binds,iT,iS] at ao
            first
            | (refine cC ?_ ?_
               ·simp[Region.wanted,kx (j:=13) (d:=24),ao];done
               ·simp[Oper.quietAt,Oper.quietUpon,execOp,go_sem,iT,k0',k4',c3,c4,hd,ao])
            | (refine .inr ⟨?_,rfl⟩
               simp[Region.wanted,kx (j:=13) (d:=24),ao])))
     ·intro f listed a' hH hr hv;have av20:=hv 20;simp[Act.eval,iT,iS] at av20;simp only[wpOp];simp[Region.wanted];refine .inl ?_;simp[Oper.wp,execOp,go_sem,av20];refine nU hH hr HM.out Sv (by kernel_rfl) λeO=>?_;rw[eO];rw[jt.out];simp[kq,Act.put,iT,iS];clear hv hH eO;rw[bl];clear bl;go_wp2_with fail;exact ri jd.out rfl HK.out iI.out (qf mu.out) hR iA hU.out 3 aA an ac ⟨#[]⟩ _ (by decide) la iG.out (λ_=>Np.uG g9.out (λp hp=>by simp only[List.mem_cons,Qh,or_false] at hp;rcases hp with rfl | rfl<;>first | exact wD.out.imp λx h=>Np.T0 h.1 (.inr h.2) | exact sS.out.imp λx h=>Np.beZ h)) _ rfl rfl rfl
end
end Go.Proofs.YtadhigmjilijcaaGreatDoor
