/- No condition. -/
import Derived.Test.YtadhigmjilijcaaGreatDoorH26
set_option linter.all false
set_option maxRecDepth 100000
set_option maxHeartbeats 8000000
namespace Go.Proofs.YtadhigmjilijcaaGreatDoor
open Go.Proofs.Tryz
section
open Go.RowKit
def iR(V:Nat)(nm:ByteArray)(q2:Int)(e2:Value)(e9:Value)(e11:Value)(e12:Value)(i:Nat):Value:=[.pointer (some ⟨V,0,none⟩),.pointer (some ⟨V,0,none⟩),e2,.pointer (some ⟨V,0,none⟩),.pointer (some ⟨V,0,none⟩),.pointer (some ⟨V,0,none⟩),.pointer (some ⟨V,3,none⟩),.pointer (some ⟨V,3,none⟩),.string nm,e9,.int .i64 q2,e11,e12,undef].getD i undef
def me(i:Nat):Nat:=[15,16,17,18,19,20,21,22,23,24,25,26,27,1].getD i 0
def aTJ:List Nat:=[0,1,3,4,5,6,7,8,10,2,9,11,12].map me
theorem rW:∀ i∈[0,1,3,4,5,6,7,8,10,2,9,11,12],me i<28/\me i∈aTJ:=by decide
theorem tM:∀ i∈[0,1,3,4,5,6,7,8,10,2,9,11,12],∀ j∈[0,1,3,4,5,6,7,8,10,2,9,11,12],j≠i->me i≠me j:=by decide
theorem bMY(k:VwS)(eW:VhOk k)(wd:ByteArray)(bp:WdH k wd)(w:World)(h:VwIn k wd w) :
 Calls prog 75 #[.pointer (some ⟨k.V,0,none⟩)] w (rF k w):=by
 have hk:=eW.ok;have oP:=jq eW;have jd:=jq bp;obtain⟨R,hR⟩:=aaK w.heap.size;obtain⟨wa,HK,dw,gr,ja,lV,iA,bo⟩:=yp hk h hR;clear hk eW bp;go_enter func75,ntmps75;have c4:=dw.out.cells 4 _ rfl;have c7:=dw.out.cells 7 _ rfl;go_upto_region 1 with fail
 try clear bo
 go_still_tail 10,(by kernel_rfl);change wpList prog _ _ _ _ wa.drew;go_wp2_with fail;refine (vL HK.out (wd:=wd) (w:=wa.drew) (dw.out.keep HK.out (vQ wa.heap.size wa).drew dw.out.lt) wd k.ty).mono ?_;rintro e wp ⟨q,gI,eA,rfl,-,mT,hb⟩;have wD:=jq (jd.out.has HK.out mT);clear mT;have ae:Below wa.heap.size wa wp:=(vQ wa.heap.size wa).drew.trans hb;have iH:=jq (gr.out.trans (ae.mono gr.out.size));have eZ:=jq (dw.out.keep HK.out ae dw.out.lt);have lJ:=jq ((ae.block R (by omega)).trans ja.out);have oo:R+1<=wp.heap.size:=yQ lV ae.size;have c3:=eZ.out.cells 3 _ rfl;clear hb ae c4 c7;go_wp2_with fail;refine (yv HK.out eZ.out k.nm HK.out.nm2 HK.out.nm1).mono ?_;rintro e wc ⟨qc,Gb,Gc,nI,rfl,ae⟩;have sS:=jq nI;clear nI;have nj:=jq (iH.out.trans (ae.mono iH.out.size));have im:=jq (eZ.out.keep HK.out ae eZ.out.lt);have sV:=jq ((ae.block R (by omega)).trans lJ.out);have tp:R+1<=wc.heap.size:=yQ oo ae.size;replace c3:=im.out.cells 3 _ rfl;clear ae;obtain⟨wx,bl⟩:=aaX (wc.alloc (.cells #[.int .i64 q,.int .i64 qc] 3));have ae:Below wc.heap.size wc wx:=by rw[bl];exact blAl
 have HP:=jq (yi (w:=wx) (B:=wx.heap.size) (b:=wc.heap.size) [q,qc] (jf [.int .i64 q,.int .i64 qc] 3 rfl bl.symm) (by rw[bl];simp) rfl (by simp));have kF:=jq (nj.out.trans (ae.mono nj.out.size));have fh:=jq (im.out.keep HK.out ae im.out.lt);have pU:=jq ((ae.block R (by omega)).trans sV.out);have kO:R+1<=wx.heap.size:=yQ tp ae.size;replace c3:=fh.out.cells 3 _ rfl;clear ae c3;go_wp2_with fail
 try rw[<-bl]
 try clear bl
 refine (vK HK.out fh.out 2 [q,qc] 2 rfl (by decide) (λp hp=>by simp only[List.mem_cons,Qh,or_false] at hp;omega) _ 2 HP.out).mono ?_;rintro e wy ⟨aA,an,ac,la,rfl,dU,har,ae⟩;have g9:=jq dU;have iG:=jq (har.less kO);clear dU har;have mu:=jq (kF.out.trans (ae.mono kF.out.size));have iI:=jq (fh.out.keep HK.out ae fh.out.lt);have hU:=jq ((ae.block R (by omega)).trans pU.out);have Cu:R+1<=wy.heap.size:=yQ kO ae.size;have kR:=fD [_,_,_] hU.out;have kR0:=kR 0 _ rfl;have kR1:=kR 1 _ rfl;have kR2:=kR 2 _ rfl;have fR:∀ i,wy.frozen? ⟨R,i,none⟩=false:=λi=>by simp[World.frozen?,hU.out]
 clear ae;go_wp2_with fail;exact ri jd.out rfl HK.out iI.out (qf mu.out) hR iA hU.out 2 aA an ac ⟨#[]⟩ _ (by decide) la iG.out (λ_=>Np.uG g9.out (λp hp=>by simp only[List.mem_cons,Qh,or_false] at hp;rcases hp with rfl | rfl<;>first | exact wD.out.imp λx h=>Np.may2 h.1 h.2 | exact sS.out.imp λx h=>Np.beQ h)) _ rfl rfl rfl
theorem bgQ(k:VwS)(eW:VhOk k)(wd:ByteArray)(w:World)(h:VwIn k wd w) :
 Calls prog 78 #[.pointer (some ⟨k.V,0,none⟩)] w λe w'=>∃ A n m l,e = .returned (.agg #[.int .i64 6,.slice A n m,.string ⟨#[]⟩])/\Np.vM k.xs k.ap.data.toList k.nm.data.toList k.ty 6 [] l/\dO az 5 0 w.heap.size w' (.slice A n m) l/\Below k.V w w':=by
 have hk:=eW.ok;obtain⟨R,hR⟩:=aaK w.heap.size;obtain⟨wa,HK,dw,gr,ja,lV,iA,bo⟩:=yp hk h hR;clear hk eW;go_enter func78,ntmps78;have c7:=dw.out.cells 7 _ rfl;by_cases fw:wd=⟨#[]⟩
 case' pos=>
  subst fw;go_upto_region 4 with fail
  try rw[bo]
  try clear bo
  obtain⟨q2,SG,SH,C9,eA⟩:∃ q2:Int,-1<=q2/\q2<k.n/\Np.je k.xs q2 (λx=>x.set.type=8)/\(-1:Int)=q2:=⟨-1,by omega,by omega,Np.GI (by omega),rfl⟩;have NY:=jq C9;rw[eA];clear eA c7 C9;have eZ:=dw;have iH:=gr;have lJ:=ja;have oo:=lV;clear dw gr ja lV;obtain⟨wp,rfl⟩:=aaX wa
 case' neg=>
  have ah:(wd.toList == [])=false:=by
   simp only[beq_eq_false_iff_ne,ne_eq,dQ];exact λe=>fw (iV e)
  have HW:Hid (Np.ai wd.data.toList=true/\wd.size<=140737488355328):=jq ⟨h.wd1.resolve_left fw,h.wd2⟩;clear fw;go_wp2_with fail
  try rw[bo]
  try clear bo
  refine (yv HK.out dw.out wd HW.out.2 HW.out.1).mono ?_;rintro e wp ⟨q2,SG,SH,C9,rfl,ae⟩;have NY:=jq C9;clear C9;have iH:=jq (gr.out.trans (ae.mono gr.out.size));have eZ:=jq (dw.out.keep HK.out ae dw.out.lt);have lJ:=jq ((ae.block R (by omega)).trans ja.out);have oo:R+1<=wp.heap.size:=yQ lV ae.size;clear ae c7 dw gr ja lV;go_upto_region 4 with fail
 all_goals
  have c3:=eZ.out.cells 3 _ rfl;obtain⟨wd0,bl⟩:=aaX wp.drew;have ae:Below wp.heap.size wp wd0:=by rw[bl];exact (vQ _ _).drew
  have nk:=jq (iH.out.trans (ae.mono iH.out.size));have gx:=jq (eZ.out.keep HK.out ae eZ.out.lt);have sW:=jq ((ae.block R (by omega)).trans lJ.out);have tq:R+1<=wd0.heap.size:=yQ oo ae.size;replace c3:=gx.out.cells 3 _ rfl;clear ae;refine yz λa0 bD=>?_;have jt:=jq bD;have fi:=jq (show a0.eval (.tmp 0) = .pointer (some ⟨k.V,0,none⟩) by rw[bD];rfl);have eM:=jq (show a0.eval (.tmp 1)=undef by rw[bD];rfl);have eC:=jq (show a0.eval (.tmp 2) = .pointer (some ⟨R,0,none⟩) by rw[bD];rfl);have gk:=jq (show a0.eval (.tmp 3) = .int .i64 q2 by rw[bD];rfl);have HM:=jq (show a0.tmps.size=28 by rw[bD];rfl);clear bD;refine wp_region_any (by kernel_rfl) ?_;change wpAny prog .any _ _ _ _ _ wp.drew;rw[<-bl];clear bl;refine cM 2 (D:=[0,1,3,4,5,6,7,8,10]) (val:=iR k.V k.nm q2 undef undef undef undef) rW tM (rR HM.out) (by kernel_rfl) ?_ ?_
  ·intro i au aI o ho a' hb ao;have k0':=adJ hb fi.out;have k3':=adJ hb gk.out;simp[Act.eval] at k0' k3'
   repeat' (rcases au with _ | ⟨_,au⟩)
   all_goals first
    | (exfalso;simp at aI;done)
    | (cases ho
       try simp[Act.eval,Region.binds,iR,me] at ao
       refine cC (by simp[Region.wanted]) ?_;simp[Oper.quietAt,Oper.quietUpon,execOp,go_sem,iR,k0',k3',c3,ao])
  ·intro f listed a' hH hr hv;have av1:=hv 1;simp[Act.eval,iR,me] at av1;simp only[wpOp];simp[Region.wanted];refine .inl ?_;simp[Oper.wp,go_sem,av1];refine (Mv HK.out gx.out).mono ?_;rintro e wc0 ⟨q0,SE,SF,vf,rfl,ae⟩;have BF:=jq vf;clear vf;have ui:=jq (nk.out.trans (ae.mono nk.out.size));have mx:=jq (gx.out.keep HK.out ae gx.out.lt);have BG:=jq ((ae.block R (by omega)).trans sW.out);have Ct:R+1<=wc0.heap.size:=yQ tq ae.size;replace c3:=mx.out.cells 3 _ rfl;clear ae;dsimp only;refine cM 9 (D:=[0,1,3,4,5,6,7,8,10,2]) (val:=iR k.V k.nm q2 (.int .i64 q0) undef undef undef) rW tM (hH.next rW tM hr) (by kernel_rfl) ?_ ?_
   ·intro i au aI o ho a' hb ao;have k0':=adJ hb fi.out;have k3':=adJ hb gk.out;simp[Act.eval] at k0' k3'
    repeat' (rcases au with _ | ⟨_,au⟩)
    all_goals first
     | (exfalso;simp at aI;done)
     | (cases ho
        try simp[Act.eval,Region.binds,iR,me] at ao
        refine cC (by simp[Region.wanted]) ?_;simp[Oper.quietAt,Oper.quietUpon,execOp,go_sem,iR,k0',k3',c3,ao])
   ·intro f listed a' hH hr hv;have av3:=hv 3;have av8:=hv 8;simp[Act.eval,iR,me] at av3 av8;simp only[wpOp];simp[Region.wanted];refine .inl ?_;simp[Oper.wp,go_sem,av3,av8];refine (yv HK.out mx.out k.nm HK.out.nm2 HK.out.nm1).mono ?_;rintro e wc ⟨qc,Gb,Gc,nI,rfl,ae⟩;have sS:=jq nI;clear nI;have nj:=jq (ui.out.trans (ae.mono ui.out.size));have im:=jq (mx.out.keep HK.out ae mx.out.lt);have sV:=jq ((ae.block R (by omega)).trans BG.out);have tp:R+1<=wc.heap.size:=yQ Ct ae.size;replace c3:=im.out.cells 3 _ rfl;clear ae;dsimp only;refine cM 11 (D:=[0,1,3,4,5,6,7,8,10,2,9]) (val:=iR k.V k.nm q2 (.int .i64 q0) (.int .i64 qc) undef undef) rW tM (hH.next rW tM hr) (by kernel_rfl) ?_ ?_
    ·intro i au aI o ho a' hb ao;have k0':=adJ hb fi.out;have k3':=adJ hb gk.out;simp[Act.eval] at k0' k3'
     repeat' (rcases au with _ | ⟨_,au⟩)
     all_goals first
      | (exfalso;simp at aI;done)
      | (cases ho
         try simp[Act.eval,Region.binds,iR,me] at ao
         refine cC (by simp[Region.wanted]) ?_;simp[Oper.quietAt,Oper.quietUpon,execOp,go_sem,iR,k0',k3',c3,ao])
    ·intro f listed a' hH hr hv;have av2:=hv 2;have av9:=hv 9;have av10:=hv 10;simp[Act.eval,iR,me] at av2 av9 av10;simp only[wpOp];simp[Region.wanted];refine .inl ?_;simp[Oper.wp,execOp,go_sem,av2,av9,av10];obtain⟨wx,bl⟩:=aaX (wc.alloc (.cells #[.int .i64 q0,.int .i64 qc,.int .i64 q2] 3));rw[<-bl];have ae:Below wc.heap.size wc wx:=by rw[bl];exact blAl
     have HP:=jq (yi (w:=wx) (B:=wx.heap.size) (b:=wc.heap.size) [q0,qc,q2] (jf [.int .i64 q0,.int .i64 qc,.int .i64 q2] 3 rfl bl.symm) (by rw[bl];simp) rfl (by simp));have kF:=jq (nj.out.trans (ae.mono nj.out.size));have fh:=jq (im.out.keep HK.out ae im.out.lt);have pU:=jq ((ae.block R (by omega)).trans sV.out);have kO:R+1<=wx.heap.size:=yQ tp ae.size;replace c3:=fh.out.cells 3 _ rfl;clear bl ae;refine cM 12 (D:=[0,1,3,4,5,6,7,8,10,2,9,11]) (val:=iR k.V k.nm q2 (.int .i64 q0) (.int .i64 qc) (.slice (some ⟨wc.heap.size,0,none⟩) 3 3) undef) rW tM (hH.next rW tM hr) (by kernel_rfl) ?_ ?_
     ·intro i au aI o ho a' hb ao;have k0':=adJ hb fi.out;have k3':=adJ hb gk.out;simp[Act.eval] at k0' k3'
      repeat' (rcases au with _ | ⟨_,au⟩)
      all_goals first
       | (exfalso;simp at aI;done)
       | (cases ho
          try simp[Act.eval,Region.binds,iR,me] at ao
          refine cC (by simp[Region.wanted]) ?_;simp[Oper.quietAt,Oper.quietUpon,execOp,go_sem,iR,k0',k3',c3,ao])
     ·intro f listed a' hH hr hv;have av0:=hv 0;have av11:=hv 11;simp[Act.eval,iR,me] at av0 av11;simp only[wpOp];simp[Region.wanted];refine .inl ?_;simp[Oper.wp,go_sem,av0,av11];refine (vK HK.out fh.out 6 [q0,qc,q2] 3 rfl (by decide) (λp hp=>by simp only[List.mem_cons,Qh,or_false] at hp;omega) _ 3 HP.out).mono ?_;rintro e wy ⟨aA,an,ac,la,rfl,dU,har,ae⟩;have g9:=jq dU;have iG:=jq (har.less kO);clear dU har;have mu:=jq (kF.out.trans (ae.mono kF.out.size));have iI:=jq (fh.out.keep HK.out ae fh.out.lt);have hU:=jq ((ae.block R (by omega)).trans pU.out);have Cu:R+1<=wy.heap.size:=yQ kO ae.size;replace c3:=iI.out.cells 3 _ rfl;clear ae;dsimp only;refine cM 13 (D:=[0,1,3,4,5,6,7,8,10,2,9,11,12]) (val:=iR k.V k.nm q2 (.int .i64 q0) (.int .i64 qc) (.slice (some ⟨wc.heap.size,0,none⟩) 3 3) (.agg #[.int .i64 6,.slice aA an ac,.string ⟨#[]⟩])) rW tM (hH.next rW tM hr) (by kernel_rfl) ?_ ?_
      ·intro i au aI o ho a' hb ao;have k0':=adJ hb fi.out;have k3':=adJ hb gk.out;simp[Act.eval] at k0' k3'
       repeat' (rcases au with _ | ⟨_,au⟩)
       all_goals first
        | (exfalso;simp at aI;done)
        | (cases ho
           try simp[Act.eval,Region.binds,iR,me] at ao
           refine cC (by simp[Region.wanted]) ?_;simp[Oper.quietAt,Oper.quietUpon,execOp,go_sem,iR,k0',k3',c3,ao])
      ·intro f listed a' hH hr hv;have av12:=hv 12;simp[Act.eval,iR,me] at av12;simp only[wpOp];simp[Region.wanted];refine .inl ?_;have kR:=fD [_,_,_] hU.out;have kR0:=kR 0 _ rfl;have kR1:=kR 1 _ rfl;have kR2:=kR 2 _ rfl;have fR:∀ i,wy.frozen? ⟨R,i,none⟩=false:=λi=>by simp[World.frozen?,hU.out]
       have k2':=(aM hH.good.base (j:=2) (by decide) (by decide)).trans eC.out;simp[Act.eval] at k2';simp[Oper.wp,execOp,go_sem,av12,kR0,kR1,kR2,fR,k2'];obtain⟨ws,bl⟩:=aaX (((wy.setCell ⟨R,0,none⟩ (.int .i64 6)).setCell ⟨R,1,none⟩ (.slice aA an ac)).setCell ⟨R,2,none⟩ (.string ⟨#[]⟩));rw[<-bl];refine nU hH hr HM.out rW (by kernel_rfl) λeO=>?_;rw[eO];rw[jt.out];simp[kq,Act.put,iR,me];clear hv hH eO kR kR0 kR1 kR2 fR k2';go_wp2_with fail;have tD:ws.heap[R]?=some (.cells #[.int .i64 6,.slice aA an ac,.string ⟨#[]⟩] 29 (0,0)):=by rw[bl];simp[World.setCell,Array.getElem?_modify,hU.out]
       have ae:Below R wy ws:=by rw[bl];exact (((vQ R wy).blSe _).blSe _).blSe _
       have qE:=run_loadVar_row (P:=prog) _ _ 29 29 _ (0,0) _ tD underlying29 rfl (by kernel_rfl);exact bodyPost_ret (Uu rfl _ _ _ _ rfl qE) rfl ⟨_,_,_,la,rfl,Np.uG g9.out (λp hp=>by simp only[List.mem_cons,Qh,or_false] at hp;rcases hp with rfl | rfl | rfl<;>first | exact BF.out.imp λx h=>Np.LM (.inr rfl) h HK.out.up | exact sS.out.imp λx h=>Np.Dz (.inr rfl) h | exact NY.out.imp λx h=>Np.Dz (.inr rfl) h),by rw[bl,hR];exact (((iG.out.set ax eB aK (p:=⟨R,0,none⟩) (Nat.lt_succ_self R) _).set ax eB aK (p:=⟨R,1,none⟩) (Nat.lt_succ_self R) _).set ax eB aK (p:=⟨R,2,none⟩) (Nat.lt_succ_self R) _).less (Nat.le_succ R),(mu.out.abQ).trans (ae.abQ)⟩
end
end Go.Proofs.YtadhigmjilijcaaGreatDoor
