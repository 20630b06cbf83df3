/- Parts of the proof. No condition. -/
import Derived.Test.YtfnopgdcaanaiaaGreatDoorW20
set_option linter.all false
set_option maxRecDepth 100000
set_option maxHeartbeats 8000000
namespace Go.Proofs.YtfnopgdcaanaiaaGreatDoor
open Go.Proofs.Tryz
section
open Go.RowKit
theorem aiJ{W:World}{B:Nat}{r:List Value}{x:Np.Held}{v:Value}{ps:List Np.Span}(h:ie W B r x)(hv:SlR eJ 2 W B v ps):ie W B (r.set 7 v) ⟨x.zone,x.signed,x.fresh,ps⟩:=by
 obtain⟨z,s,dv,sv,fv,pv,rfl,h1,h2,h3,h4,h5,h6,h7,h8⟩:=h;exact⟨z,s,dv,sv,fv,v,rfl,h1,h2,h3,h4,h5,h6,h7,hv⟩
theorem Np.UD{e:Np.Ent22}(h:Np.EntOk e)(hd:e.signed.set.data≠[])(hs:Np.qr e.signed):KeyS e.signed:=by
 obtain⟨hv,hf⟩:Np.cN e.signed.set=true/\Np.dY e.zone e.signed.sigs:=by
  rcases h.kind with k | k
  ·exact absurd k.1 hd
  ·exact k.2
 obtain⟨h1,h2,h3,h4,h5,h6,h7,h8⟩:=Np.qY hv;refine⟨by have:=(Np.tT h1).1;omega,by omega,by omega,by omega,λd hd=>?_,by have:=hf.1;omega,λg hg=>?_⟩
 ·have hd':=Np.Af h8 d hd;have hd'':=hd';unfold Np.jt at hd'';simp only[Bool.and_eq_true,Qa] at hd'';obtain⟨⟨⟨⟨a1,a2⟩,a3,a4⟩,_⟩,a5⟩:=hd'';have b1:=Np.Jt e.signed.set.type;have b2:=PX e.signed.set.type;have b3:=QN a5;exact⟨by omega,by omega,by omega⟩
 ·obtain⟨i,hi⟩:=List.mem_iff_getElem?.1 hg
  have:=hf.2 i g hi
  have Ai:=(Np.tT h.zone).1;have k1:=this.key;have k2:=this.alg;have k3:=this.win;exact⟨by rw[this.zone];omega,by omega,by omega,by omega,by omega,hs g hg⟩
theorem Np.UE{e:Np.Ent22}(h:Np.EntOk e)(hd:e.signed.set.data≠[])(hs:Np.qr e.signed):Np.Plain47 e.signed:=by
 obtain⟨hv,hf⟩:Np.cN e.signed.set=true/\Np.dY e.zone e.signed.sigs:=by
  rcases h.kind with k | k
  ·exact absurd k.1 hd
  ·exact k.2
 obtain⟨h1,h2,h3,h4,h5,h6,h7,h8⟩:=Np.qY hv;refine⟨Np.yp h1,by omega,h4,λd hd=>Np.Ml (Np.Af h8 d hd),λg hg=>?_⟩;obtain⟨i,hi⟩:=List.mem_iff_getElem?.1 hg
 have:=hf.2 i g hi
 exact⟨by rw[this.zone];exact Np.yp h.zone,by have:=this.key;omega,by have:=this.alg;omega,this.win.1,by have:=this.win;omega,(hs g hg).1⟩
theorem Jv{α:Type}{R:aFJ α}{sz:Nat}{w:World}{B:Nat}{v:Value}{xs:List α}(h:SlR R sz w B v xs):∃ A n c,v = .slice A n c:=by
 obtain⟨A,c,rfl,_⟩:=ak h;exact⟨_,_,_,rfl⟩
theorem aaQ(v:Value)(l:List Np.Span)(t:Int)(w:World)(h:SlR eJ 2 w w.heap.size v l) :
 Calls prog 74 #[v,.int .i64 t] w (aFQ w.heap.size w (.bool (Np.fe.l1 l t))):=by
 obtain⟨r,hr⟩:=aCQ (Np.fe.l1 l t);rw[hr];have HR:=jq hr;have HL:=jq h;obtain⟨A,c,rfl,bq,bN⟩:=ak h;obtain⟨n,hn⟩:=aCQ l.length;rw[hn] at HL bq bN |-;have HN:=jq hn;clear h hr hn;go_enter func74,ntmps74;go_wp2_with fail;go_loopw [5] (λi wr=>∃ (k:Nat),k<=n/\i = .int .i64 k/\Hid (Below w.heap.size w wr)/\Hid (∀ s∈l.take k,¬ (s.frm<=t/\t<s.til))) (λi _=>n - (intOf i).toNat)
 case atStart=>exact⟨0,jQ _,rfl,jq (vQ _ _),jq (by simp)⟩
 case round=>
  obtain⟨k,hk,rfl,HB,HQ⟩:=hrel;by_cases aa:k<n
  ·obtain⟨x,hx⟩:∃ x,l[k]?=some x:=⟨_,aQ (by rw[HN.out];exact aa)⟩;have iL:=HL.out.keep iu HB.out;obtain⟨b,o,rfl⟩:=BX (k:=k) iL (by rw[HN.out];exact aa);obtain⟨bD,hat⟩:=yC iL hx;have h0:=hat.c0;have h1:=hat.c1;have bV:(0:Int)<=(k:Int):=by omega
   have bT:(k:Int)<(n:Int):=by omega
   have bO:Hid (¬ (x.frm<=t/\t<x.til)->∀ s∈l.take (k+1),¬ (s.frm<=t/\t<s.til)):=jq (λh y hy=>by
    obtain⟨hl,he⟩:=cQ.1 hx;rw[fQ hl,he] at hy;rcases List.mem_append.1 hy with hy | hy
    ·exact HQ.out y hy
    ·rw[List.mem_singleton] at hy;subst hy;exact h)
   have nk:Hid ((x.frm<=t/\t<x.til)->r=true):=jq (λh=>by
    rw[<-HR.out];unfold Np.fe.l1;rw[List.any_eq_true];exact⟨x,gQ hx,by rw[uQ h.1,uQ h.2];rfl⟩)
   clear iL hat hx;by_cases g1:x.frm<=t
   case neg=>
    have d1:decide (x.frm<=t)=false:=tQ g1;have HX:=jq (bO.out (λh=>g1 h.1));clear g1;go_wp2_with fail;go_roundw
    case rel=>exact⟨k+1,by omega,by go_num,HB,HX⟩
    case measure=>simp[intOf] <;> omega
   case pos=>
    have d1:decide (x.frm<=t)=true:=uQ g1;by_cases g2:t<x.til
    case neg=>
     have d2:decide (t<x.til)=false:=tQ g2;have HX:=jq (bO.out (λh=>g2 h.2));clear g1 g2;go_wp2_with fail;go_roundw
     case rel=>exact⟨k+1,by omega,by go_num,HB,HX⟩
     case measure=>simp[intOf] <;> omega
    case pos=>
     have d2:decide (t<x.til)=true:=uQ g2;have HX:=jq (nk.out ⟨g1,g2⟩);clear g1 g2;go_wp2_with fail;go_ret;exact⟨ag HX.out.symm,HB.out⟩
  ·have HX:Hid (r=false):=jq (by
    rw[<-HR.out];unfold Np.fe.l1;rw[List.any_eq_false];intro s hs h;have h1:=HQ.out s (by rw[kQ (by rw[HN.out];omega)];exact hs);rw[Bool.and_eq_true,Qa,Qa] at h;exact h1 h)
   go_wp2_with fail;go_ret;exact⟨ag HX.out.symm,HB.out⟩
theorem agQ(l:List Np.Held)(z:ByteArray)(x:Np.Signed)(sx:ByteArray)(li:sx.data.toList=x.set.name)(dA:Option Addr)(dn dc:Nat)(gA:Option Addr)(gn gc:Nat)(t:Int)(v:Value)(w:World)(hl:SlR ie 8 w w.heap.size v l)(hd:SlR bK 3 w w.heap.size (.slice dA dn dc) x.set.data)(hg:SlR dl 6 w w.heap.size (.slice gA gn gc) x.sigs) :
 Calls prog 35 #[v,.string z,.agg #[.string sx,.int .i64 x.set.type,.int .i64 x.set.life,.slice dA dn dc,.slice gA gn gc],.int .i64 t] w λe w'=>e = .returned (.bool (Np.mL l z.data.toList x t))/\Below w.heap.size w w':=by
 obtain⟨r,hr⟩:=aCQ (Np.mL l z.data.toList x t);rw[hr];have HR:=jq hr;obtain⟨X,hX⟩:=aCQ w.heap.size;obtain⟨w1,ah⟩:=aCQ (w.alloc (.cells #[.string sx,.int .i64 x.set.type,.int .i64 x.set.life,.slice dA dn dc,.slice gA gn gc] 42));have hb:Below w.heap.size w w1:=by rw[<-ah];exact (vQ _ _).alloc (bQ _) _
 have bk:w1.heap.size=X+1:=by rw[<-ah,<-hX];simp
 have aq:=jq hb;have jc:=jq (jB _ _ hX ah);have HD:=jq (hd.later cM dt hb);have HG:=jq (hg.later dD eu hb);have FC:=hl.later sf sh hb;obtain⟨A,c,rfl,bq,bN⟩:=ak hl;obtain⟨n,hn⟩:=aCQ l.length;rw[hn] at FC bq bN |-;have HL:=jq FC;have HN:=jq hn;have SM:=jq li;clear hb hd hg hl hn FC li hr;go_enter func35,ntmps35;go_wp2_with fail
 try clear ah
 go_loopw [9] (λi wr=>∃ k:Nat,k<=n/\i = .int .i64 k/\Hid (Np.mL (l.take k) z.data.toList x t=false)/\Hid (Below w1.heap.size w1 wr)) (λi _=>n - (intOf i).toNat)
 case atStart=>exact⟨0,jQ _,rfl,jq (by rfl),jq (vQ _ _)⟩
 case round=>
  obtain⟨k,hk,rfl,cw,HB⟩:=hrel;have an:=HB.out.size;by_cases aa:k<n
  ·obtain⟨y,ac⟩:∃ y,l[k]?=some y:=⟨_,aQ (by rw[HN.out];exact aa)⟩;obtain⟨b2,o2,zy,sy,dv2,sv2,fv2,pv2,rfl,VW,OB,gU,vg,vN,Ws,IB,f0,f1,f2,f3,f4,f5,f6,f7⟩:=Ia (HL.out.later sf sh HB.out) ac;have nY:Hid (∀ b,(decide (y.zone=z.data.toList)&&(decide (y.signed=x)&&Np.fe.l1 y.spans t))=b->Np.mL (l.take (k+1)) z.data.toList x t=b/\(b=true->r=true)):=jq (λb hb=>by
    obtain⟨q1,q2⟩:=cQ.1 ac;have h0:=cw.out;refine⟨?_,λh=>?_⟩
    ·unfold Np.mL at h0 |-;rw[fQ q1,q2,List.any_append,h0,Bool.false_or,List.any_cons,List.any_nil,Bool.or_false];exact hb
    ·rw[<-HR.out];unfold Np.mL;rw[List.any_eq_true];exact⟨y,gQ ac,hb.trans h⟩)
   obtain⟨dA2,dn2,dc2,rfl⟩:=Jv vg;obtain⟨gA2,gn2,gc2,rfl⟩:=Jv vN;obtain⟨pA2,pn2,pc2,rfl⟩:=Jv IB;have pj:=jq (jc.out.keep HB.out (by omega));have bV:(0:Int)<=(k:Int):=by omega
   have bT:(k:Int)<(n:Int):=by omega
   obtain⟨tb,vO⟩:=aCQ (decide (y.signed=x));obtain⟨sb,lP⟩:=aCQ (Np.fe.l1 y.spans t);have ci:∀ g:bE wr,Calls prog 20 #[.agg #[.string sy,.int .i64 y.signed.set.type,.int .i64 y.signed.set.life,.slice dA2 dn2 dc2,.slice gA2 gn2 gc2],.agg #[.string sx,.int .i64 x.set.type,.int .i64 x.set.life,.slice dA dn dc,.slice gA gn gc]] g.w λe w'=>e = .returned (.bool tb)/\Below g.w.heap.size g.w w':=λg=>by
    rw[<-vO];have dU:=HB.out.trans (g.below.mono an);exact P2 y.signed x sy sx gU SM.out _ _ _ _ g.w (vg.later cM dt g.below) (vN.later dD eu g.below) (HD.out.later cM dt dU) (HG.out.later dD eu dU)
   have Na:∀ g:bE wr,Calls prog 74 #[.slice pA2 pn2 pc2,.int .i64 t] g.w λe w'=>e = .returned (.bool sb)/\Below g.w.heap.size g.w w':=λg=>by
    rw[<-lP];exact aaQ _ y.spans t g.w (IB.later iu pW g.below)
   have HC:=jq ci;have HP:=jq Na;have qD:∀ (g:bE wr) (p:Addr),p.block<wr.heap.size->g.w.cell? p=wr.cell? p:=λg p h=>g.cell p h;have g0:=pj.out 0 _ rfl;have g1:=pj.out 1 _ rfl;have g2:=pj.out 2 _ rfl;have g3:=pj.out 3 _ rfl;have g4:=pj.out 4 _ rfl;have hXw:X<wr.heap.size:=by omega
   have aD:b2<wr.heap.size:=by omega
   rw[vO,lP] at nY;have Ls:=jq OB;clear ac gU vg vN Ws IB vO lP ci Na OB;by_cases jm:zy.data.toList=z.data.toList
   case neg=>
    have Yg:(zy.toList == z.toList)=false:=by rw[dQ,dQ];exact beq_eq_false_iff_ne.2 jm
    have HX:=jq (nY.out false (by rw[tQ (by rw[<-Ls.out];exact jm)];rfl)).1;clear jm;go_wp2_with fail;go_quiet (fail);go_wp2_with fail;go_roundw
    case rel=>exact⟨k+1,by omega,by go_num,HX,jq (below_drewN HB.out _)⟩
    case measure=>simp[intOf] <;> omega
   case pos=>
    have Yg:(zy.toList == z.toList)=true:=by rw[dQ,dQ,jm];simp
    have S7:Hid (decide (y.zone=z.data.toList)=true):=jq (uQ (by rw[<-Ls.out];exact jm));rw[S7.out] at nY;clear jm
    cases tb with
    | false=>
     have HX:=jq (nY.out false rfl).1;go_wp2_with fail;refine aEK ?_
     repeat (go_big_quiet_step ((go_at_call 20;exact Calls.grow_of (HC.out _))))
     refine wpQuiet_nil ?_;rintro _ ⟨g,rfl⟩;go_wp2_with fail;go_roundw
     case rel=>exact⟨k+1,by omega,by go_num,HX,jq (HB.out.trans (g.below.mono an))⟩
     case measure=>simp[intOf] <;> omega
    | true=>
     cases sb with
     | false=>
      have HX:=jq (nY.out false rfl).1;go_wp2_with fail;refine aEK ?_
      repeat (go_big_quiet_step (fail))
      go_big_quiet_step ((go_at_call 20;exact Calls.grow_of (HC.out _)))
      repeat (go_big_quiet_step (fail))
      go_big_quiet_step ((go_at_call 74;exact Calls.grow_of (HP.out _)))
      repeat (go_big_quiet_step (fail))
      refine wpQuiet_nil ?_;rintro _ ⟨g,rfl⟩;go_wp2_with fail;go_roundw
      case rel=>exact⟨k+1,by omega,by go_num,HX,jq (HB.out.trans (g.below.mono an))⟩
      case measure=>simp[intOf] <;> omega
     | true=>
      have HX:=jq ((nY.out true rfl).2 rfl);go_wp2_with fail;refine aEK ?_
      repeat (go_big_quiet_step (fail))
      go_big_quiet_step ((go_at_call 20;exact Calls.grow_of (HC.out _)))
      repeat (go_big_quiet_step (fail))
      go_big_quiet_step ((go_at_call 74;exact Calls.grow_of (HP.out _)))
      repeat (go_big_quiet_step (fail))
      refine wpQuiet_nil ?_;rintro _ ⟨g,rfl⟩;go_wp2_with fail;go_ret;exact⟨ag HX.out.symm,by rw[hX];have:=aq.out;rw[hX] at this;exact this.trans ((HB.out.trans (g.below.mono an)).aDQ)⟩
  ·have HX:Hid (r=false):=jq (by rw[<-HR.out];have:=cw.out;rwa [kQ (by rw[HN.out];omega)] at this);go_wp2_with fail;go_ret;exact⟨ag HX.out.symm,by rw[hX];have:=aq.out;rw[hX] at this;exact this.trans (HB.out.aDQ)⟩
end
end Go.Proofs.YtfnopgdcaanaiaaGreatDoor
