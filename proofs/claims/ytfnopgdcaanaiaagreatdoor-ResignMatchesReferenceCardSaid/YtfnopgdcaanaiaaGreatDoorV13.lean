/- Parts of the proof. No condition. -/
import Derived.Sort.CutIn
import Derived.Test.YtfnopgdcaanaiaaGreatDoorV06
import Derived.Test.YtfnopgdcaanaiaaGreatDoorV07
import Derived.Test.YtfnopgdcaanaiaaGreatDoorV09
set_option linter.all false
set_option maxRecDepth 100000
set_option maxHeartbeats 8000000
namespace Go.Proofs.YtfnopgdcaanaiaaGreatDoor
open Go.Proofs.Tryz
section
open Go.RowKit Go.Sort Go.Shelf
def Np.eP:List Np.Span->Np.Span->Bool->List Np.Span
 | [],s,put=>if put then [] else [s]
 | x::l,s,put=>if x.til<s.frm then x::eP l s put else if s.til<x.frm then (if put then [] else [s])++x::eP l s true else eP l ⟨min s.frm x.frm,max s.til x.til⟩ put
theorem RA:∀ (l:List Np.Span) (s:Np.Span),(∀ x∈l,s.til<x.frm/\x.frm<x.til)->s.frm<s.til->Np.eP l s true=l
 | [],_,_,_=>rfl
 | x::l,s,h,hs=>by
   obtain⟨h1,h2⟩:=h x (by simp);rw[Np.eP,Qc (by omega),Qb h1,RA l s (λy hy=>h y (mQ _ hy)) hs];rfl
theorem Kp:∀ (l:List Np.Span) (s:Np.Span),Np.ApartS l->s.frm<s.til->Np.eP l s false=Np.nT l s
 | [],_,_,_=>rfl
 | x::l,s,hl,hs=>by
   have hx:=hl.full x (by simp);rw[Np.eP,Np.nT];split
   ·rw[Kp l s hl.tail hs]
   ·split
    ·rename_i h1 h2;rw[RA l s (λy hy=>⟨?_,hl.full y (mQ _ hy)⟩) hs]
     ·rfl
     ·have:=(List.pairwise_cons.1 hl.apart).1 y hy
      omega
    ·exact Kp l _ hl.tail (by simp;omega)
theorem Fd:∀ (l:List Np.Span) (s:Np.Span),(Np.eP l s true).length<=l.length
 | [],_=>by simp[Np.eP]
 | x::l,s=>by
   rw[Np.eP];split
   ·have:=Fd l s;simp;omega
   ·split
    ·have:=Fd l s;simp;omega
    ·have:=Fd l ⟨min s.frm x.frm,max s.til x.til⟩;simp;omega
theorem Kq:∀ (l:List Np.Span) (s:Np.Span),(Np.eP l s false).length<=l.length+1
 | [],_=>by simp[Np.eP]
 | x::l,s=>by
   rw[Np.eP];split
   ·have:=Kq l s;simp;omega
   ·split
    ·have:=Fd l s;simp;omega
    ·have:=Kq l ⟨min s.frm x.frm,max s.til x.til⟩;simp;omega
structure SpBox(W:World)(b:Nat)(f u:Int):Prop where
 c0:W.cell? ⟨b,0,none⟩=some (.int .i64 f)
 c1:W.cell? ⟨b,1,none⟩=some (.int .i64 u)
 f0:W.frozen? ⟨b,0,none⟩=false
 f1:W.frozen? ⟨b,1,none⟩=false
 lt:b<W.heap.size
theorem SpBox.keep{W W':World}{b:Nat}{f u:Int}(h:SpBox W b f u){B:Nat}(hb:Below B W W')(hB:b<B):SpBox W' b f u:=
 ⟨(hb.cell hB).trans h.c0,(hb.cell hB).trans h.c1,(hb.frozen hB).trans h.f0,(hb.frozen hB).trans h.f1,lQ h.lt hb.size⟩
theorem SpBox.put0{W:World}{b:Nat}{f u:Int}(h:SpBox W b f u)(f':Int):SpBox (W.setCell ⟨b,0,none⟩ (.int .i64 f')) b f' u:=
 ⟨World.cell?_setCell_same _ _ _ h.c0,(xQ _ _ _ _ (by simp)).trans h.c1,(World.frozen?_setCell _ _ _ _).trans h.f0,(World.frozen?_setCell _ _ _ _).trans h.f1,by simpa using h.lt⟩
theorem SpBox.put1{W:World}{b:Nat}{f u:Int}(h:SpBox W b f u)(u':Int):SpBox (W.setCell ⟨b,1,none⟩ (.int .i64 u')) b f u':=
 ⟨(xQ _ _ _ _ (by simp)).trans h.c0,World.cell?_setCell_same _ _ _ h.c1,(World.frozen?_setCell _ _ _ _).trans h.f0,(World.frozen?_setCell _ _ _ _).trans h.f1,by simpa using h.lt⟩
theorem aw.other{base:Nat}{W:World}{v:Value}{ps:List Np.Span}(h:aw base W v ps){p:Addr}(hp:p.block<base)(u:Value):aw base (W.setCell p u) v ps:=ownsRow_setCell_below h hp u
structure SpAt(W:World)(b j:Nat)(f u:Int):Prop where
 c0:W.cell? ⟨b,j,none⟩=some (.int .i64 f)
 c1:W.cell? ⟨b,j+1,none⟩=some (.int .i64 u)
theorem SpAt.keep{W W':World}{b j:Nat}{f u:Int}(h:SpAt W b j f u){B:Nat}(hb:Below B W W')(hB:b<B):SpAt W' b j f u:=⟨(hb.cell hB).trans h.c0,(hb.cell hB).trans h.c1⟩
theorem ma{W:World}{B b o n c k:Nat}{l:List Np.Span}{x:Np.Span}(h:SlR bA 2 W B (.slice (some ⟨b,o,none⟩) n c) l)(hx:l[k]?=some x):b<B/\SpAt W b (o+k * 2) x.frm x.til:=by
 obtain⟨A',c',hA',_,_,aY⟩:=h
 cases hA'
 obtain⟨b',o',e,hA,bB,hlen,hce,hR⟩:=aY k _ hx
 cases hA
 obtain rfl:=hR;exact⟨bB,hce 0 _ rfl,hce 1 _ rfl⟩
theorem nS{α:Type}{R:aPK α}{sz:Nat}{W:World}{B:Nat}{A:Option Addr}{n c k:Nat}{l:List α}(h:SlR R sz W B (.slice A n c) l)(hk:k<l.length):∃ b o,A=some ⟨b,o,none⟩:=by
 obtain⟨A',c',hA',_,_,aY⟩:=h
 cases hA'
 obtain⟨b',o',e,hA,_⟩:=aY k _ (aQ hk);exact⟨b',o',hA⟩
structure WithK(X:Nat)(w W:World)(v:Value)(oo:List Np.Span)(fr ti:Int)(b j:Nat)(xf xu:Int):Prop where
 below:Below X w W
 own:aw (X+1) W v oo
 box:SpBox W X fr ti
 at_:SpAt W b j xf xu
theorem WithK.keep{X:Nat}{w W W':World}{v:Value}{oo:List Np.Span}{fr ti:Int}{b j:Nat}{xf xu:Int}(h:WithK X w W v oo fr ti b j xf xu)(hb:Below W.heap.size W W')(bJ:b<X):WithK X w W' v oo fr ti b j xf xu:=
 ⟨h.below.trans (hb.mono (Nat.le_of_lt h.box.lt)),h.own.keep hb,h.box.keep hb h.box.lt,h.at_.keep hb (Nat.lt_trans bJ h.box.lt)⟩
theorem WithK.own'{X:Nat}{w W W':World}{v v':Value}{oo oo':List Np.Span}{fr ti:Int}{b j:Nat}{xf xu:Int}(h:WithK X w W v oo fr ti b j xf xu)(hb:Below (X+1) W W')(bJ:b<X)(ho:aw (X+1) W' v' oo'):WithK X w W' v' oo' fr ti b j xf xu:=
 ⟨h.below.trans (hb.mono (Nat.le_succ _)),ho,h.box.keep hb (Nat.lt_succ_self _),h.at_.keep hb (by omega)⟩
theorem WithK.put0{X:Nat}{w W:World}{v:Value}{oo:List Np.Span}{fr ti:Int}{b j:Nat}{xf xu:Int}(h:WithK X w W v oo fr ti b j xf xu)(bJ:b<X)(u:Int):WithK X w (W.setCell ⟨X,0,none⟩ (.int .i64 u)) v oo u ti b j xf xu:=
 ⟨h.below.setCell (bQ _) _,h.own.other (by simp) _,h.box.put0 u,(xQ _ _ _ _ (by simp <;> omega)).trans h.at_.c0,(xQ _ _ _ _ (by simp <;> omega)).trans h.at_.c1⟩
theorem WithK.put1{X:Nat}{w W:World}{v:Value}{oo:List Np.Span}{fr ti:Int}{b j:Nat}{xf xu:Int}(h:WithK X w W v oo fr ti b j xf xu)(bJ:b<X)(u:Int):WithK X w (W.setCell ⟨X,1,none⟩ (.int .i64 u)) v oo fr u b j xf xu:=
 ⟨h.below.setCell (bQ _) _,h.own.other (by simp) _,h.box.put1 u,(xQ _ _ _ _ (by simp <;> omega)).trans h.at_.c0,(xQ _ _ _ _ (by simp <;> omega)).trans h.at_.c1⟩
theorem aCX(v:Value)(l:List Np.Span)(s:Np.Span)(bw:l.length<=20000)(hs:s.frm<s.til)(w:World)(h:SlR bA 2 w w.heap.size v l) :
 Calls prog 65 #[v,.agg #[.int .i64 s.frm,.int .i64 s.til]] w (λe w'=>∃ v',e = .returned v'/\aw w.heap.size w' v' (Np.eP l s false)/\Below w.heap.size w w'):=by
 have HD:=jq h;obtain⟨A,c,rfl,be,bC⟩:=aj h;clear h;have fI:Hid ((Np.eP l s false).length<=20001):=jq (by have:=Kq l s;omega);obtain⟨sf,su⟩:=s;dsimp only at hs;have pI:decide (su<=sf)=false:=aKX;go_enter func65,ntmps65;go_wp2_with fail;obtain⟨w1,ai⟩:=aJZ (w.alloc (.cells #[.int .i64 sf,.int .i64 su] 110));obtain⟨X,hX⟩:=aJZ w.heap.size;have HX:Hid (SpBox w1 X sf su):=jq (by rw[<-ai,<-hX];exact⟨by simp[go_sem],by simp[go_sem],by simp[go_sem],by simp[go_sem],by simp⟩);have ba:w1.heap.size=X+1:=by rw[<-ai,<-hX];simp
 have am:Hid (Below X w w1):=jq (by rw[<-ai,<-hX];exact (vQ _ _).alloc (bQ _) _);rw[ai,hX];clear ai;rw[hX] at HD;go_loopw [5,6,7] (λvo vp i wr=>∃ (k:Nat) (o:List Np.Span) (put:Bool) (fr ti:Int),k<=l.length/\i = .int .i64 k/\vp = .bool put/\Hid (Below X w wr)/\Hid (aw (X+1) wr vo o)/\Hid (SpBox wr X fr ti)/\Hid (o++Np.eP (l.drop k) ⟨fr,ti⟩ put=Np.eP l ⟨sf,su⟩ false)) (λ_ _ i _=>l.length - (intOf i).toNat)
 case atStart=>exact⟨0,[],false,sf,su,jQ _,rfl,rfl,am,jq (aw.nil _ _),HX,jq rfl⟩
 case round=>
  obtain⟨k,oo,put,fr,ti,hk,rfl,rfl,HB,HO,eL,HG⟩:=hrel;have al:=HB.out.size;have iD:=eL.out.lt;have cC:X<=wr.heap.size:=Nat.le_of_lt iD;have fJ:Hid (oo.length<=30000):=jq (by have:=fI.out;rw[<-HG.out,List.length_append] at this;omega);have x0:=eL.out.c0;have x1:=eL.out.c1;have xf0:=eL.out.f0;have xf1:=eL.out.f1;by_cases aa:k<l.length
  ·obtain⟨x,ab⟩:∃ x,l[k]?=some x:=⟨_,aQ aa⟩;have ci:=HD.out.keep bE HB.out;obtain⟨b,o,rfl⟩:=nS ci aa;obtain⟨bB,hat⟩:=ma ci ab;clear ci;have h0:=hat.c0;have h1:=hat.c1;have HT:Hid (l.drop k=x::l.drop (k+1)):=jq (by
    obtain⟨hl,he⟩:=cQ.1 ab;rw[sQ hl,he])
   have bR:b<wr.heap.size:=by omega
   have bJ:b≠X:=by omega
   obtain⟨xf,xu⟩:=x;dsimp only at h0 h1 hat;have HAT:=jq hat;clear ab hat;have bJ:b<X:=bB;have HK:Hid (WithK X w wr u5 oo fr ti b (o+k * 2) xf xu):=jq ⟨HB.out,HO.out,eL.out,HAT.out⟩;clear HB HO eL HAT bB bR;by_cases gT:xu<fr
   ·have hd:decide (xu<fr)=true:=uQ gT;have lI:Hid ((oo ++ [⟨xf,xu⟩])++Np.eP (l.drop (k+1)) ⟨fr,ti⟩ put=Np.eP l ⟨sf,su⟩ false):=jq (by rw[<-HG.out,HT.out,Np.eP,Qb gT];simp);clear gT;go_wp2_with fail;go_quiet (fail);obtain⟨w2,ag⟩:=aJZ (wr.drewN nq);have cY:Hid (WithK X w w2 _ _ _ _ b (o+k * 2) xf xu):=jq (by rw[<-ag];exact HK.out.keep (below_drewN (vQ _ _) _) bJ);rw[ag];clear ag x0 x1 xf0 xf1 iD h0 h1;have x0:=cY.out.box.c0;have x1:=cY.out.box.c1;have xf0:=cY.out.box.f0;have xf1:=cY.out.box.f1;have iD:=cY.out.box.lt;have h0:=cY.out.at_.c0;have h1:=cY.out.at_.c1;go_wp2_with (at_builtin;refine o4 _ rfl _ _ rfl (X+1) _ (oo) rfl (cY.out.own.alloc _) w2.heap.size xf xu (by simp[go_sem]) (by simp[go_sem]) (by simp[go_sem]) (by have:=fJ.out;omega) (by simp;omega) ?_;intro v5 w5 bS av;have H5:=jq (And.intro bS av);clear bS av);have iG:=jq ((cY.out.keep ((vQ _ _).alloc (bQ _) _) bJ).own' H5.out.2 bJ H5.out.1);go_roundw
    case rel=>exact⟨k+1,oo ++ [⟨xf,xu⟩],put,fr,ti,by omega,by go_num,rfl,jq iG.out.below,jq iG.out.own,jq iG.out.box,lI⟩
    case measure=>simp[intOf] <;> omega
   ·have hd:decide (xu<fr)=false:=tQ gT;by_cases iS:ti<xf
    ·have fS:decide (ti<xf)=true:=uQ iS;have lI:Hid ((oo++(if put then [] else [⟨fr,ti⟩])) ++ [⟨xf,xu⟩]++Np.eP (l.drop (k+1)) ⟨fr,ti⟩ true=Np.eP l ⟨sf,su⟩ false):=jq (by rw[<-HG.out,HT.out,Np.eP,Qc gT,Qb iS];simp);clear gT iS
     cases put with
     | true=>
      go_wp2_with fail;go_quiet (fail);obtain⟨w2,ag⟩:=aJZ (wr.drewN nq);have cY:Hid (WithK X w w2 _ _ _ _ b (o+k * 2) xf xu):=jq (by rw[<-ag];exact HK.out.keep (below_drewN (vQ _ _) _) bJ);rw[ag];clear ag x0 x1 xf0 xf1 iD h0 h1;have x0:=cY.out.box.c0;have x1:=cY.out.box.c1;have xf0:=cY.out.box.f0;have xf1:=cY.out.box.f1;have iD:=cY.out.box.lt;have h0:=cY.out.at_.c0;have h1:=cY.out.at_.c1;go_wp2_with fail;go_quiet (fail);obtain⟨w3,ag⟩:=aJZ (w2.drewN nq);have fi:Hid (WithK X w w3 _ _ _ _ b (o+k * 2) xf xu):=jq (by rw[<-ag];exact cY.out.keep (below_drewN (vQ _ _) _) bJ);rw[ag];clear ag x0 x1 xf0 xf1 iD h0 h1;have x0:=fi.out.box.c0;have x1:=fi.out.box.c1;have xf0:=fi.out.box.f0;have xf1:=fi.out.box.f1;have iD:=fi.out.box.lt;have h0:=fi.out.at_.c0;have h1:=fi.out.at_.c1;go_wp2_with (at_builtin;refine o4 _ rfl _ _ rfl (X+1) _ (oo) rfl (fi.out.own.alloc _) w3.heap.size xf xu (by simp[go_sem]) (by simp[go_sem]) (by simp[go_sem]) (by have:=fJ.out;omega) (by simp;omega) ?_;intro v5 w5 bS av;have H5:=jq (And.intro bS av);clear bS av);have iG:=jq ((fi.out.keep ((vQ _ _).alloc (bQ _) _) bJ).own' H5.out.2 bJ H5.out.1);go_roundw
      case rel=>exact⟨k+1,oo ++ [⟨xf,xu⟩],true,fr,ti,by omega,by go_num,rfl,jq iG.out.below,jq iG.out.own,jq iG.out.box,jq (by have:=lI.out;simpa using this)⟩
      case measure=>simp[intOf] <;> omega
     | false=>
      go_wp2_with fail;go_quiet (fail);obtain⟨w2,ag⟩:=aJZ (wr.drewN nq);have cY:Hid (WithK X w w2 _ _ _ _ b (o+k * 2) xf xu):=jq (by rw[<-ag];exact HK.out.keep (below_drewN (vQ _ _) _) bJ);rw[ag];clear ag x0 x1 xf0 xf1 iD h0 h1;have x0:=cY.out.box.c0;have x1:=cY.out.box.c1;have xf0:=cY.out.box.f0;have xf1:=cY.out.box.f1;have iD:=cY.out.box.lt;have h0:=cY.out.at_.c0;have h1:=cY.out.at_.c1;go_wp2_with fail;go_quiet (fail);obtain⟨w3,ag⟩:=aJZ (w2.drewN nq);have fi:Hid (WithK X w w3 _ _ _ _ b (o+k * 2) xf xu):=jq (by rw[<-ag];exact cY.out.keep (below_drewN (vQ _ _) _) bJ);rw[ag];clear ag x0 x1 xf0 xf1 iD h0 h1;have x0:=fi.out.box.c0;have x1:=fi.out.box.c1;have xf0:=fi.out.box.f0;have xf1:=fi.out.box.f1;have iD:=fi.out.box.lt;have h0:=fi.out.at_.c0;have h1:=fi.out.at_.c1;go_wp2_with (at_builtin;first | (refine o4 _ rfl _ _ rfl (X+1) _ oo rfl (fi.out.own.alloc _) w3.heap.size fr ti (by simp[go_sem]) (by simp[go_sem]) (by simp[go_sem]) (by have:=fJ.out;omega) (by simp;omega) ?_;intro v5 w5 bS av;have iG:Hid (WithK X w w5 v5 (oo ++ [⟨fr,ti⟩]) fr ti b (o+k * 2) xf xu):=jq ((fi.out.keep ((vQ _ _).alloc (bQ _) _) bJ).own' av bJ bS);clear bS av x0 x1 xf0 xf1 iD h0 h1;have x0:=iG.out.box.c0;have x1:=iG.out.box.c1;have xf0:=iG.out.box.f0;have xf1:=iG.out.box.f1;have iD:=iG.out.box.lt;have h0:=iG.out.at_.c0;have h1:=iG.out.at_.c1) | (refine o4 _ rfl _ _ rfl (X+1) _ (oo ++ [⟨fr,ti⟩]) rfl (iG.out.own.alloc _) w5.heap.size xf xu (by simp[go_sem]) (by simp[go_sem]) (by simp[go_sem]) (by have:=fJ.out;simp;omega) (by simp;omega) ?_;intro v6 w6 ig aL;have H6:=jq (And.intro ig aL);clear ig aL));have F3:=jq ((iG.out.keep ((vQ _ _).alloc (bQ _) _) bJ).own' H6.out.2 bJ H6.out.1);go_roundw
      case rel=>exact⟨k+1,oo ++ [⟨fr,ti⟩] ++ [⟨xf,xu⟩],true,fr,ti,by omega,by go_num,rfl,jq F3.out.below,jq F3.out.own,jq F3.out.box,jq (by have:=lI.out;simpa using this)⟩
      case measure=>simp[intOf] <;> omega
    ·have fS:decide (ti<xf)=false:=tQ iS;have lI:Hid (oo++Np.eP (l.drop (k+1)) ⟨min fr xf,max ti xu⟩ put=Np.eP l ⟨sf,su⟩ false):=jq (by rw[<-HG.out,HT.out,Np.eP,Qc gT,Qc iS]);clear gT iS;go_wp2_with fail;go_quiet (fail);obtain⟨w2,ag⟩:=aJZ (wr.drewN nq);have cY:Hid (WithK X w w2 _ _ _ _ b (o+k * 2) xf xu):=jq (by rw[<-ag];exact HK.out.keep (below_drewN (vQ _ _) _) bJ);rw[ag];clear ag x0 x1 xf0 xf1 iD h0 h1;have x0:=cY.out.box.c0;have x1:=cY.out.box.c1;have xf0:=cY.out.box.f0;have xf1:=cY.out.box.f1;have iD:=cY.out.box.lt;have h0:=cY.out.at_.c0;have h1:=cY.out.at_.c1;go_wp2_with fail;go_quiet (fail);obtain⟨w3,ag⟩:=aJZ (w2.drewN nq);have fi:Hid (WithK X w w3 _ _ _ _ b (o+k * 2) xf xu):=jq (by rw[<-ag];exact cY.out.keep (below_drewN (vQ _ _) _) bJ);rw[ag];clear ag x0 x1 xf0 xf1 iD h0 h1;have x0:=fi.out.box.c0;have x1:=fi.out.box.c1;have xf0:=fi.out.box.f0;have xf1:=fi.out.box.f1;have iD:=fi.out.box.lt;have h0:=fi.out.at_.c0;have h1:=fi.out.at_.c1;go_wp2_with fail;go_region;obtain⟨w4,ag⟩:=aJZ ((w3.setCell ⟨X,0,none⟩ (.int .i64 (min fr xf))).drew);have qf:Hid (WithK X w w4 _ _ _ _ b (o+k * 2) xf xu):=jq (by rw[<-ag];exact (fi.out.put0 bJ _).keep (vQ _ _).drew bJ);rw[ag];clear ag x0 x1 xf0 xf1 iD h0 h1;have x0:=qf.out.box.c0;have x1:=qf.out.box.c1;have xf0:=qf.out.box.f0;have xf1:=qf.out.box.f1;have iD:=qf.out.box.lt;have h0:=qf.out.at_.c0;have h1:=qf.out.at_.c1;go_wp2_with fail;go_region;obtain⟨w5,ag⟩:=aJZ ((w4.setCell ⟨X,1,none⟩ (.int .i64 (max ti xu))).drew);have iG:Hid (WithK X w w5 _ _ _ _ b (o+k * 2) xf xu):=jq (by rw[<-ag];exact (qf.out.put1 bJ _).keep (vQ _ _).drew bJ);rw[ag];clear ag;go_wp2_with fail;go_roundw
     case rel=>exact⟨k+1,oo,put,_,_,by omega,by go_num,rfl,jq iG.out.below,jq iG.out.own,jq iG.out.box,lI⟩
     case measure=>simp[intOf] <;> omega
  ·have HE:Hid (l.drop k = []):=jq (List.drop_eq_nil_of_le (by omega))
   cases put with
   | true=>
    have HR:Hid (oo=Np.eP l ⟨sf,su⟩ false):=jq (by have:=HG.out;rw[HE.out] at this;simpa [Np.eP] using this);go_wp2_with fail;go_ret;refine⟨_,rfl,?_,?_⟩
    ·rw[hX];have:=HO.out.weak (Nat.le_succ X);rw[HR.out] at this;exact this
    ·rw[hX];exact HB.out
   | false=>
    have HR:Hid (oo ++ [⟨fr,ti⟩]=Np.eP l ⟨sf,su⟩ false):=jq (by have:=HG.out;rw[HE.out] at this;simpa [Np.eP] using this);go_wp2_with (at_builtin;refine o4 _ rfl _ _ rfl (X+1) _ oo rfl (HO.out.alloc _) wr.heap.size fr ti (by simp[go_sem]) (by simp[go_sem]) (by simp[go_sem]) (by have:=fJ.out;omega) (by simp;omega) ?_;intro v5 w5 bS av;have H5:=jq (And.intro bS av);clear bS av);go_ret;refine⟨_,rfl,?_,?_⟩
    ·rw[hX];have:=H5.out.1.weak (Nat.le_succ X);rw[HR.out] at this;exact this
    ·rw[hX];exact (HB.out.alloc cC _).trans (H5.out.2.mono (Nat.le_succ X))
end
section
open Go.RowKit
theorem Qx(t:Int)(b:Bool)(w:World) :
 Calls prog 236 #[.int .i64 t,.bool b] w (aPQ w (.bool (Np.jW t b))):=by
 by_cases h3:t=3
 ·subst h3
  cases b
  all_goals
   go_enter func236,ntmps236;go_wp2_with fail;go_ret;exact⟨rfl,rfl⟩
 ·by_cases h6:t=6
  ·subst h6
   cases b
   all_goals
    go_enter func236,ntmps236;go_wp2_with fail;go_ret;exact⟨rfl,rfl⟩
  ·by_cases h4:t=4
   ·subst h4
    cases b
    all_goals
     go_enter func236,ntmps236;go_wp2_with fail;go_ret;exact⟨rfl,rfl⟩
   ·by_cases h7:t=7
    ·subst h7
     cases b
     all_goals
      go_enter func236,ntmps236;go_wp2_with fail;go_ret;exact⟨rfl,rfl⟩
    ·have HF:Hid (Np.jW t b=true):=jq (by unfold Np.jW;rw[Qc (by omega),Qc (by omega)]);have g3:(t != 3)=true:=by simpa using h3
     have g6:(t != 6)=true:=by simpa using h6
     have g4:(t != 4)=true:=by simpa using h4
     have g7:(t != 7)=true:=by simpa using h7
     rw[HF.out];clear h3 h6 h4 h7
     cases b
     all_goals
      go_enter func236,ntmps236;go_wp2_with fail;go_ret;exact⟨rfl,rfl⟩
def Np.atI(l:List Np.Signed)(n:List UInt8)(t:Int):Int:=match l.findIdx? λx=>(x.set.name == n)&&decide (x.set.type=t) with | none=>-1 | some i=>i
theorem Mu{l:List Np.Signed}{n:List UInt8}{t:Int}(h:∀ (j:Nat) (x:Np.Signed),l[j]?=some x->¬ (x.set.name=n/\x.set.type=t)):Np.atI l n t = -1:=by
 unfold Np.atI
 have:l.findIdx? (λx=>(x.set.name == n)&&decide (x.set.type=t))=none:=by
  rw[List.findIdx?_eq_none_iff];intro x hx;obtain⟨j,hj,rfl⟩:=nQ.1 hx
  have:=h j _ (aQ hj)
  rw[Bool.and_eq_false_iff];by_cases e:l[j].set.name=n
  ·right;simpa using λe2=>this ⟨e,e2⟩
  ·left;simpa using e
 rw[this]
theorem UK{l:List Np.Signed}{n:List UInt8}{t:Int}{k:Nat}{x:Np.Signed}(hx:l[k]?=some x)(he:x.set.name=n/\x.set.type=t)(h:∀ (j:Nat) (y:Np.Signed),j<k->l[j]?=some y->¬ (y.set.name=n/\y.set.type=t)):Np.atI l n t=k:=by
 unfold Np.atI;obtain⟨hk,rfl⟩:=cQ.1 hx
 have:l.findIdx? (λx=>(x.set.name == n)&&decide (x.set.type=t))=some k:=by
  rw[List.findIdx?_eq_some_iff_getElem];refine⟨hk,by simp[he.1,he.2],λj hj=>?_⟩
  have:=h j _ hj (aQ (by omega))
  simpa using this
 rw[this]
theorem Mt(l:List Np.Signed)(n:List UInt8)(t:Int):(Np.atI l n t<0)↔¬ Np.j5 l n t:=by
 by_cases h:Np.j5 l n t
 ·obtain⟨x,hx,h1,h2⟩:=h;refine⟨λaa=>?_,λhn=>absurd ⟨x,hx,h1,h2⟩ hn⟩;unfold Np.atI at aa
  cases hf:l.findIdx? (λx=>(x.set.name == n)&&decide (x.set.type=t)) with
  | none=>
   rw[List.findIdx?_eq_none_iff] at hf
   have:=hf x hx
   simp[h1,h2] at this
  | some i=>rw[hf] at aa;dsimp only at aa;omega
 ·refine⟨λ_=>h,λ_=>?_⟩;rw[Mu (λj x hx he=>h ⟨x,gQ hx,he⟩)];decide
theorem Qt(a:ByteArray)(v:Value)(l:List Np.Signed)(q:ByteArray)(t:Int)(w:World)(hd:SlR cV 5 w w.heap.size v l) :
 Calls prog 235 #[.agg #[.string a,v],.agg #[.string q,.int .i64 t]] w (aOJ w.heap.size w (.int .i64 (Np.atI l q.data.toList t))):=by
 obtain⟨r,hr⟩:=aJZ (Np.atI l q.data.toList t);rw[hr];have HR:=jq hr;have HD:=jq hd;obtain⟨A,c,rfl,be,bC⟩:=aj hd;clear hr hd;have HW:Hid (∀ o o',Below w.heap.size w ((w.alloc o).alloc o')):=jq (λo o'=>((vQ _ w).alloc (bQ _) _).alloc (by simp) _);go_enter func235,ntmps235;go_wp2_with fail;obtain⟨w1,ai⟩:=aJZ ((w.alloc (.cells #[.string a,.slice A l.length c] 44)).alloc (.cells #[.string q,.int .i64 t] 31));have c1:w1.cell? ⟨w.heap.size,1,none⟩=some (.slice A l.length c):=by rw[<-ai];simp[go_sem]
 have q0:w1.cell? ⟨w.heap.size+1,0,none⟩=some (.string q):=by rw[<-ai];simp[go_sem]
 have q1:w1.cell? ⟨w.heap.size+1,1,none⟩=some (.int .i64 t):=by rw[<-ai];simp[go_sem]
 have ba:w1.heap.size=w.heap.size+2:=by rw[<-ai];simp
 have am:Hid (Below w.heap.size w w1):=jq (by rw[<-ai];exact HW.out _ _);rw[ai];clear ai;go_loopw [5] (λi wr=>∃ k:Nat,k<=l.length/\i = .int .i64 k/\Hid (Below w1.heap.size w1 wr)/\Hid (∀ j x,j<k->l[j]?=some x->¬ (x.set.name=q.data.toList/\x.set.type=t))) (λi _=>l.length - (intOf i).toNat)
 case atStart=>exact⟨0,jQ _,rfl,jq (vQ _ _),jq (λj g hj=>by omega)⟩
 case round=>
  obtain⟨k,hk,rfl,HB,HA⟩:=hrel;have al:=HB.out.size;have d1:wr.cell? ⟨w.heap.size,1,none⟩=some (.slice A l.length c):=aIZ HB.out c1;have e0:wr.cell? ⟨w.heap.size+1,0,none⟩=some (.string q):=aIZ HB.out q0;have e1:wr.cell? ⟨w.heap.size+1,1,none⟩=some (.int .i64 t):=aIZ HB.out q1;have aD:=aIX am HB.out;have bR:w.heap.size+1<wr.heap.size:=by omega
  by_cases aa:k<l.length
  ·obtain⟨x,ab⟩:∃ x,l[k]?=some x:=⟨_,aQ aa⟩;obtain⟨b,o,c',sn,dv,sv,hA,bj,_,ay,cC,aT,aR,f0,f1,f2,f3,f4⟩:=fE (HD.out.keep bU aD.out) ab
   cases hA
   have HX:=jq ab;have aW:=jq ay;have dR:Hid (¬ (x.set.name=q.data.toList/\x.set.type=t)->∀ j y,j<k+1->l[j]?=some y->¬ (y.set.name=q.data.toList/\y.set.type=t)):=jq (λh j y hj hy=>by
    by_cases e:j=k
    ·subst e;rw[ab] at hy;cases hy;exact h
    ·exact HA.out j y (by omega) hy)
   have bF:(0:Int)<=(k:Int):=by omega
   have bL:(k:Int)<(l.length:Int):=by omega
   have aq:b<wr.heap.size:=by omega
   obtain⟨b1,WL⟩:=aJZ (sn.toList == q.toList);obtain⟨b2,WM⟩:=aJZ (x.set.type == t);have H1:Hid (b1=true↔x.set.name=q.data.toList):=jq (by rw[<-WL,dQ,dQ,ay,beq_iff_eq]);have H2:Hid (b2=true↔x.set.type=t):=jq (by rw[<-WM,beq_iff_eq]);clear ab ay aT aR f2 f3 f4
   cases b1 with
   | false=>
    have HN:=jq (dR.out λh=>by have:=H1.out.2 h.1;cases this);go_wp2_with fail;go_quiet (fail);go_wp2_with fail;go_roundw
    case rel=>exact⟨k+1,by omega,by go_num,jq (below_drewN HB.out _),jq HN.out⟩
    case measure=>simp[intOf] <;> omega
   | true=>
    cases b2 with
    | false=>
     have HN:=jq (dR.out λh=>by have:=H2.out.2 h.2;cases this);go_wp2_with fail;go_quiet (fail);go_wp2_with fail;go_roundw
     case rel=>exact⟨k+1,by omega,by go_num,jq (below_drewN HB.out _),jq HN.out⟩
     case measure=>simp[intOf] <;> omega
    | true=>
     have HF:Hid (r=k):=jq (by rw[<-HR.out];exact UK HX.out ⟨H1.out.1 rfl,H2.out.1 rfl⟩ HA.out);go_wp2_with fail;go_quiet (fail);go_wp2_with fail;go_ret;exact⟨jK HF.out.symm,below_drewN aD.out _⟩
  ·have HF:Hid (r = -1):=jq (by rw[<-HR.out];exact Mu λj x hx=>HA.out j x (by have:=(cQ.1 hx).1;omega) hx);go_wp2_with fail;go_ret;exact⟨jK HF.out.symm,aD.out⟩
theorem anX(a:ByteArray)(v:Value)(l:List Np.Signed)(w:World)(hd:SlR cV 5 w w.heap.size v l) :
 Calls prog 160 #[.agg #[.string a,v]] w (aOJ w.heap.size w (.bool (Np.yes (Np.ApexH a.data.toList l)))):=by
 obtain⟨r,hr⟩:=aJZ (Np.yes (Np.ApexH a.data.toList l));rw[hr];have HR:=jq hr;have HD:=jq hd;obtain⟨A,c,rfl,be,bC⟩:=aj hd;clear hr hd;have HW:Hid (∀ o,Below w.heap.size w (w.alloc o)):=jq (λo=>(vQ _ w).alloc (bQ _) _);go_enter func160,ntmps160;go_wp2_with fail;obtain⟨w1,ai⟩:=aJZ (w.alloc (.cells #[.string a,.slice A l.length c] 44));have c0:w1.cell? ⟨w.heap.size,0,none⟩=some (.string a):=by rw[<-ai];simp[go_sem]
 have c1:w1.cell? ⟨w.heap.size,1,none⟩=some (.slice A l.length c):=by rw[<-ai];simp[go_sem]
 have ba:w1.heap.size=w.heap.size+1:=by rw[<-ai];simp
 have am:Hid (Below w.heap.size w w1):=jq (by rw[<-ai];exact HW.out _);rw[ai];clear ai;refine (Qt a _ l a 4 _ (HD.out.later bU fD am.out)).mono ?_;rintro e w2 ⟨rfl,ac⟩;have aN:=ac.size;have ah:=aIX am ac;replace c0:=aIZ ac c0;replace c1:=aIZ ac c1;clear ac;obtain⟨i4,IH⟩:=aJZ (Np.atI l a.data.toList 4);have H4:Hid (i4<0↔¬ Np.j5 l a.data.toList 4):=jq (by rw[<-IH];exact Mt _ _ _);rw[IH];clear IH;by_cases h4:i4<0
 ·have HX:Hid (r=false):=jq (by rw[<-HR.out];exact Np.aS λh=>H4.out.1 h4 h.start);go_wp2_with fail;go_ret;exact⟨ae HX.out.symm,ah.out⟩
 ·have qf:Hid (Np.j5 l a.data.toList 4):=jq (Classical.not_not.1 λh=>h4 (H4.out.2 h));go_wp2_with fail;refine (Qt a _ l a 2 _ (HD.out.later bU fD ah.out)).mono ?_;rintro e w3 ⟨rfl,ak⟩;have gV:=ak.size;have aA:=aIX ah ak;replace c0:=aIZ ak c0;replace c1:=aIZ ak c1;clear ak;obtain⟨i2,vL⟩:=aJZ (Np.atI l a.data.toList 2);have H2:Hid (i2<0↔¬ Np.j5 l a.data.toList 2):=jq (by rw[<-vL];exact Mt _ _ _);rw[vL];clear vL;by_cases h2:i2<0
  ·have HX:Hid (r=false):=jq (by rw[<-HR.out];exact Np.aS λh=>H2.out.1 h2 h.server);go_wp2_with fail;go_ret;exact⟨ae HX.out.symm,aA.out⟩
  ·have cY:Hid (Np.j5 l a.data.toList 2):=jq (Classical.not_not.1 λh=>h2 (H2.out.2 h));go_wp2_with fail;go_loopw [3] (λi wr=>∃ k:Nat,k<=l.length/\i = .int .i64 k/\Hid (Below w3.heap.size w3 wr)/\Hid (∀ j x,j<k->l[j]?=some x->Np.jW x.set.type (x.set.name == a.data.toList)=true)) (λi _=>l.length - (intOf i).toNat)
   case atStart=>exact⟨0,jQ _,rfl,jq (vQ _ _),jq (λj g hj=>by omega)⟩
   case round=>
    obtain⟨k,hk,rfl,HB,HA⟩:=hrel;have al:=HB.out.size;have d0:wr.cell? ⟨w.heap.size,0,none⟩=some (.string a):=aIZ HB.out c0;have d1:wr.cell? ⟨w.heap.size,1,none⟩=some (.slice A l.length c):=aIZ HB.out c1;have aD:=aIX aA HB.out;have bR:w.heap.size<wr.heap.size:=by omega
    by_cases aa:k<l.length
    ·obtain⟨x,ab⟩:∃ x,l[k]?=some x:=⟨_,aQ aa⟩;obtain⟨b,o,c',sn,dv,sv,hA,bj,_,ay,cC,aT,aR,f0,f1,f2,f3,f4⟩:=fE (HD.out.keep bU aD.out) ab
     cases hA
     have bF:(0:Int)<=(k:Int):=by omega
     have bL:(k:Int)<(l.length:Int):=by omega
     have aq:b<wr.heap.size:=by omega
     have heq:(sn.toList == a.toList)=(x.set.name == a.data.toList):=by rw[dQ,dQ,ay]
     have uG:Hid (Np.jW x.set.type (x.set.name == a.data.toList)=true->∀ j y,j<k+1->l[j]?=some y->Np.jW y.set.type (y.set.name == a.data.toList)=true):=jq (λh j y hj hy=>by
      by_cases e:j=k
      ·subst e;rw[ab] at hy;cases hy;exact h
      ·exact HA.out j y (by omega) hy)
     have FU:Hid (Np.jW x.set.type (x.set.name == a.data.toList)=false->r=false):=jq (λh=>by
      rw[<-HR.out];exact Np.aS λq=>by have:=q.fits x (gQ ab);rw[h] at this;cases this)
     generalize (x.set.name == a.data.toList)=bb at *;clear ab ay aT aR f2 f3 f4
     cases hf:Np.jW x.set.type bb with
     | true=>
      have HF:=jq (uG.out hf);have cB:∀ w,Calls prog 236 #[.int .i64 x.set.type,.bool bb] w (aPQ w (.bool true)):=λw=>by rw[<-hf];exact Qx _ _ _
      have HC:=jq cB;rw[<-heq] at cB;have bl:=jq cB;clear hf cB heq;go_wp2_with fail;go_quiet (first | (go_at_call 236;exact Calls.quiet_of_same (Calls.still_same (bl.out _))) | (go_at_call 236;exact Calls.quiet_of_same (Calls.still_same (HC.out _))));go_wp2_with fail;go_roundw
      case rel=>exact⟨k+1,by omega,by go_num,jq (below_drewN HB.out _),jq HF.out⟩
      case measure=>simp[intOf] <;> omega
     | false=>
      have HF:=jq (FU.out hf);have cB:∀ w,Calls prog 236 #[.int .i64 x.set.type,.bool bb] w (aPQ w (.bool false)):=λw=>by rw[<-hf];exact Qx _ _ _
      have HC:=jq cB;rw[<-heq] at cB;have bl:=jq cB;clear hf cB heq;go_wp2_with fail;go_quiet (first | (go_at_call 236;exact Calls.quiet_of_same (Calls.still_same (bl.out _))) | (go_at_call 236;exact Calls.quiet_of_same (Calls.still_same (HC.out _))));go_wp2_with fail;go_ret;exact⟨ae HF.out.symm,below_drewN aD.out _⟩
    ·go_wp2_with fail;go_ret;refine⟨ae ?_,aD.out⟩;rw[<-HR.out];refine (Np.cu ⟨qf.out,cY.out,λx hx=>?_⟩).symm;obtain⟨j,hj,rfl⟩:=nQ.1 hx;exact HA.out j _ (by omega) (aQ hj)
end
namespace Np
theorem yG{l:List Copy}{a:List UInt8} : a∈apexes l↔∃ c∈l,c.zone.apex=a:=by
 unfold apexes;rw[(E3 _).mem_iff,wl,List.mem_map]
theorem UG{l m:List Copy}(h:∀ a,(∃ c∈l,c.zone.apex=a)↔∃ c∈m,c.zone.apex=a):apexes l=apexes m:=
 Ka eY _ _ (J4 (wt _)) (J4 (wt _)) λa=>yG.trans ((h a).trans yG.symm)
theorem Mn(l:List Copy):(l.map (·.zone.apex)).foldl eJ []=apexes l:=by
 have key:∀ (l o:List (List UInt8)),o.Pairwise (λa b=>aI a b<0)->(l.foldl eJ o).Pairwise (λa b=>aI a b<0)/\∀ y,y∈l.foldl eJ o↔y∈o\/y∈l:=by
  intro l
  induction l with
  | nil=>exact λo ho=>⟨ho,λy=>by simp⟩
  | cons a l ih=>
   intro o ho;obtain⟨h1,h2⟩:=Ql o a ho;obtain⟨h3,h4⟩:=ih _ h1;exact⟨h3,λy=>by rw[List.foldl_cons,h4,h2,List.mem_cons,or_assoc]⟩
 obtain⟨h1,h2⟩:=key (l.map (·.zone.apex)) [] List.Pairwise.nil;refine Ka eY _ _ h1 (J4 (wt _)) λa=>?_;rw[h2,yG,List.mem_map];simp
def xY(a:Int)(c:Copy):List Copy:=if c.frm<a/\a<c.til then [⟨c.host,c.frm,a,c.zone⟩,⟨c.host,a,c.til,c.zone⟩] else [c]
def vg(l:List Copy)(k:Nat)(a:Int):List Copy:=
 match l[k]? with
 | none=>l
 | some c=>l.take k++xY a c++l.drop (k+1)
theorem Vq{a:Int}{c d:Copy}(h:d∈xY a c):d.host=c.host/\d.zone=c.zone/\c.frm<=d.frm/\d.til<=c.til/\(c.frm<c.til->d.frm<d.til):=by
 unfold xY at h;split at h
 ·rename_i hc;simp only[List.mem_cons,Qh,or_false] at h;rcases h with rfl | rfl
  ·exact⟨rfl,rfl,Int.le_refl _,Int.le_of_lt hc.2,λ_=>hc.1⟩
  ·exact⟨rfl,rfl,Int.le_of_lt hc.1,Int.le_refl _,λ_=>hc.2⟩
 ·rw[List.mem_singleton] at h;subst h;exact⟨rfl,rfl,Int.le_refl _,Int.le_refl _,id⟩
theorem Vs{l:List Copy}{k:Nat}{c:Copy}(h:l[k]?=some c):l=l.take k ++ [c]++l.drop (k+1):=by
 obtain⟨hk,rfl⟩:=cQ.1 h;rw[List.append_assoc,List.singleton_append,List.getElem_cons_drop,List.take_append_drop]
theorem MO(l:List Copy)(k:Nat)(a:Int):vg l k a=l\/∃ p c q,l=p ++ [c]++q/\vg l k a=p++xY a c++q:=by
 unfold vg
 cases h:l[k]? with
 | none=>exact .inl rfl
 | some c=>exact .inr ⟨_,c,_,Vs h,rfl⟩
theorem MP{l:List Copy}{k:Nat}{a:Int}{d:Copy}(h:d∈vg l k a):∃ c∈l,d.host=c.host/\d.zone=c.zone/\c.frm<=d.frm/\d.til<=c.til/\(c.frm<c.til->d.frm<d.til):=by
 rcases MO l k a with e | ⟨p,c,q,e1,e2⟩
 ·rw[e] at h;exact⟨d,h,rfl,rfl,Int.le_refl _,Int.le_refl _,id⟩
 ·rw[e2] at h;rcases List.mem_append.1 h with h | h
  ·rcases List.mem_append.1 h with h | h
   ·exact⟨d,by rw[e1];simp[h],rfl,rfl,Int.le_refl _,Int.le_refl _,id⟩
   ·exact⟨c,by rw[e1];simp,Vq h⟩
  ·exact⟨d,by rw[e1];simp[h],rfl,rfl,Int.le_refl _,Int.le_refl _,id⟩
theorem NJ{l:List Copy}(hl:nU l){P:Int->Zone->Prop} : (∃ c∈l,P c.host c.zone)↔∃ t,∃ c∈l,P c.host c.zone/\c.frm<=t/\t<c.til:=
 ⟨λ⟨c,h1,h2⟩=>⟨c.frm,c,h1,h2,Int.le_refl _,hl c h1⟩,λ⟨_,c,h1,h2,_⟩=>⟨c,h1,h2⟩⟩
def xT(l m:List Copy):Prop:=∀ (P:Int->Zone->Prop) (t:Int),(∃ d∈l,P d.host d.zone/\d.frm<=t/\t<d.til)↔∃ c∈m,P c.host c.zone/\c.frm<=t/\t<c.til
theorem xT.zone{l m:List Copy}(h:xT l m)(hl:nU l)(hm:nU m){P:Int->Zone->Prop} : (∃ c∈l,P c.host c.zone)↔∃ c∈m,P c.host c.zone:=by
 rw[NJ hl,NJ hm];exact⟨λ⟨t,ht⟩=>⟨t,(h P t).1 ht⟩,λ⟨t,ht⟩=>⟨t,(h P t).2 ht⟩⟩
theorem xT.apexes{l m:List Copy}(h:xT l m)(hl:nU l)(hm:nU m):apexes l=apexes m:=
 UG λa=>h.zone hl hm (P:=λ_ z=>z.apex=a)
theorem xT.fresh{l m:List Copy}(h:xT l m)(hl:nU l)(hm:nU m)(zone:List UInt8)(s:Signed):bN (eq (cL l zone) s)=bN (eq (cL m zone) s):=by
 refine PQ (yT hl) (yT hm) λt=>Jz.trans (Iff.trans ?_ Jz.symm)
 have:=h (λ_ z=>z.apex=zone/\s∈z.sets) t
 simpa only[and_assoc] using this
theorem EK(a b:List Copy)(zone:List UInt8):cL (a++b) zone=cL a zone++cL b zone:=by
 unfold cL tm;rw[List.filter_append,List.flatMap_append]
theorem Vr(l:List Copy)(k:Nat)(a:Int):(vg l k a).length<=l.length+1:=by
 rcases MO l k a with e | ⟨p,c,q,e1,e2⟩
 ·rw[e];omega
 ·rw[e2,e1]
  have:(xY a c).length<=2:=by unfold xY;split <;> simp
  simp only[List.length_append,List.length_singleton];omega
def withC(h:Hist)(l:List Copy):Hist:=⟨h.hosts,l,h.anchor,h.hints,h.drift,h.stop⟩
def yO(l:List Copy)(u:Int):List Copy:=(l.map λc=>⟨c.host,c.frm,min c.til u,c.zone⟩).filter λc=>decide (c.frm<c.til)
theorem PI{l:List Copy}{u:Int}{d:Copy} : d∈yO l u↔∃ c∈l,d=⟨c.host,c.frm,min c.til u,c.zone⟩/\c.frm<min c.til u:=by
 unfold yO;rw[List.mem_filter,List.mem_map];constructor
 ·rintro⟨⟨c,hc,rfl⟩,h⟩;exact⟨c,hc,rfl,by simpa using h⟩
 ·rintro⟨c,hc,rfl,h⟩;exact⟨⟨c,hc,rfl⟩,by simpa using h⟩
theorem asK(l:List Copy)(u:Int):(yO l u).length<=l.length:=by
 unfold yO;exact yQ (List.length_filter_le _ _) (by rw[List.length_map];exact bQ _)
end Np
section
open Go.RowKit
theorem ZV(a b:ByteArray)(n1 n2 n3 n4 m1 m2 m3 m4:Int)(s1 s2:Int)(w:World):(binOp .neq 50 (.agg #[.string a,.int .i64 n1,.int .i64 n2,.int .i64 n3,.int .i64 n4,.int .u64 s1]) (.agg #[.string b,.int .i64 m1,.int .i64 m2,.int .i64 m3,.int .i64 m4,.int .u64 s2])).run prog w = .ok (.bool (!(a.toList == b.toList&&(n1 == m1&&(n2 == m2&&(n3 == m3&&(n4 == m4&&s1 == s2))))))) w:=by
 have u3:=underlying3;have a3:=isAgg3;have z3:=sizeOf3;have u9:=underlying9;have a9:=isAgg9;have z9:=sizeOf9;have u8:=underlying48;have a8:=isAgg48;have z8:=sizeOf48;have hS:prog.underlying 50=some (.struct (prog.fieldsOf 50)):=by kernel_rfl
 have hp:prog.stoodInHeld 50=false:=by kernel_rfl
 rw[run_neq_struct,show (10000:Nat)=9999+1 from rfl,run_equalIn_agg w 9999 50 _ _ hS hp];simp only[Program.fieldsOf,underlying50];go_simp;by_cases h0:a.toList=b.toList <;> by_cases h1:n1=m1 <;> by_cases h2:n2=m2 <;> by_cases h3:n3=m3 <;> by_cases h4:n4=m4 <;> by_cases h5:s1=s2 <;> simp[h0,h1,h2,h3,h4,h5]
theorem asY{x y:Np.Sig}{a b:ByteArray}(ha:a.data.toList=x.zone)(hb:b.data.toList=y.zone):(!(a.toList == b.toList&&(x.key == y.key&&(x.alg == y.alg&&(x.frm == y.frm&&(x.til == y.til&&x.sum == y.sum))))))=decide (x≠y):=by
 rw[dQ,dQ,ha,hb];obtain⟨z,k,g,f,t,m⟩:=x;obtain⟨z',k',g',f',t',m'⟩:=y;simp only[ne_eq,Np.Sig.mk.injEq];by_cases h0:z=z' <;> by_cases h1:k=k' <;> by_cases h2:g=g' <;> by_cases h3:f=f' <;> by_cases h4:t=t' <;> by_cases h5:m=m' <;> simp[h0,h1,h2,h3,h4,h5]
theorem QR(s1 s2:ByteArray)(t1 l1 t2 l2:Int)(v1 v2 u1 u2:Value)(d1 d2:List Np.Datum)(g1 g2:List Np.Sig)(w:World)(eU:SlR cA 3 w w.heap.size v1 d1)(fS:SlR cA 3 w w.heap.size v2 d2)(oI:SlR de 6 w w.heap.size u1 g1)(pE:SlR de 6 w w.heap.size u2 g2) :
 Calls prog 20 #[.agg #[.string s1,.int .i64 t1,.int .i64 l1,v1,u1],.agg #[.string s2,.int .i64 t2,.int .i64 l2,v2,u2]] w
  λe w'=>e = .returned (.bool (decide ((s1=s2/\t1=t2/\l1=l2/\d1=d2)/\g1=g2)))/\Below w.heap.size w w':=by
 obtain⟨r,hr⟩:=aJZ (decide ((s1=s2/\t1=t2/\l1=l2/\d1=d2)/\g1=g2));rw[hr];have HR:=jq hr;have uz:=jq eU;have ci:=jq fS;have sO:=jq oI;have lI:=jq pE;obtain⟨A1,c1,rfl,_,_⟩:=aj eU;obtain⟨A2,c2,rfl,_,_⟩:=aj fS;obtain⟨A3,c3,rfl,_,_⟩:=aj oI;obtain⟨A4,c4,rfl,_,_⟩:=aj pE;clear eU fS oI pE hr;obtain⟨d1n,h1⟩:=aJZ d1.length;obtain⟨d2n,h2⟩:=aJZ d2.length;obtain⟨n,h3⟩:=aJZ g1.length;obtain⟨m,h4⟩:=aJZ g2.length;rw[h1,h2,h3,h4];rw[h1] at uz;rw[h2] at ci;rw[h3] at sO;rw[h4] at lI;have H3:=jq h3;have H4:=jq h4;clear h1 h2 h3 h4;obtain⟨X,hX⟩:=aJZ w.heap.size;obtain⟨Y,hY⟩:=aJZ (X+1);obtain⟨W1,an⟩:=aJZ ((w.alloc (.cells #[.string s1,.int .i64 t1,.int .i64 l1,.slice A1 d1n c1,.slice A3 n c3] 42)).alloc (.cells #[.string s2,.int .i64 t2,.int .i64 l2,.slice A2 d2n c2,.slice A4 m c4] 42));have aB:Below w.heap.size w W1:=by rw[<-an];exact ((vQ _ _).alloc (bQ _) _).alloc (by simp) _
 have jF:W1.heap.size=w.heap.size+2:=by rw[<-an];simp
 have k0:W1.cell? ⟨X,0,none⟩=some (.string s1):=by rw[<-an,<-hX];simp[go_sem]
 have k1:W1.cell? ⟨X,1,none⟩=some (.int .i64 t1):=by rw[<-an,<-hX];simp[go_sem]
 have k2:W1.cell? ⟨X,2,none⟩=some (.int .i64 l1):=by rw[<-an,<-hX];simp[go_sem]
 have k3:W1.cell? ⟨X,3,none⟩=some (.slice A1 d1n c1):=by rw[<-an,<-hX];simp[go_sem]
 have k4:W1.cell? ⟨X,4,none⟩=some (.slice A3 n c3):=by rw[<-an,<-hX];simp[go_sem]
 have j0:W1.cell? ⟨Y,0,none⟩=some (.string s2):=by rw[<-an,<-hY,<-hX];simp[go_sem]
 have j1:W1.cell? ⟨Y,1,none⟩=some (.int .i64 t2):=by rw[<-an,<-hY,<-hX];simp[go_sem]
 have j2:W1.cell? ⟨Y,2,none⟩=some (.int .i64 l2):=by rw[<-an,<-hY,<-hX];simp[go_sem]
 have j3:W1.cell? ⟨Y,3,none⟩=some (.slice A2 d2n c2):=by rw[<-an,<-hY,<-hX];simp[go_sem]
 have j4:W1.cell? ⟨Y,4,none⟩=some (.slice A4 m c4):=by rw[<-an,<-hY,<-hX];simp[go_sem]
 rw[hX] at aB jF uz ci sO lI |-;have aO:=jq aB;clear aB;go_enter func20,ntmps20;go_wp2_with fail;refine (arX s1 s2 t1 l1 t2 l2 _ _ d1 d2 _ ((uz.out.keep bD aO.out).more bP (by omega)) ((ci.out.keep bD aO.out).more bP (by omega))).mono ?_;rintro e w2 ⟨rfl,ac⟩;have aN:=ac.size;replace k0:=aIZ ac k0;replace k1:=aIZ ac k1;replace k2:=aIZ ac k2;replace k3:=aIZ ac k3;replace k4:=aIZ ac k4;replace j0:=aIZ ac j0;replace j1:=aIZ ac j1;replace j2:=aIZ ac j2;replace j3:=aIZ ac j3;replace j4:=aIZ ac j4;have ah:=aIX aO ac;clear ac an hX;obtain⟨q,hq⟩:=aJZ (decide (s1=s2/\t1=t2/\l1=l2/\d1=d2));rw[hq];have og:=jq hq;clear hq
 cases q with
 | false=>
  have HX:Hid (r=false):=jq (by rw[<-HR.out];exact tQ λh=>(of_decide_eq_false og.out) h.1);go_wp2_with fail;go_ret;exact⟨ae HX.out.symm,ah.out⟩
 | true=>
  by_cases BD:n=m
  ·subst BD;go_wp2_with fail;go_loopw [5] (λi wr=>∃ (k:Nat),k<=n/\i = .int .i64 k/\Hid (Below w2.heap.size w2 wr)/\Hid (g1.take k=g2.take k)) (λi _=>n - (intOf i).toNat)
   case atStart=>exact⟨0,jQ _,rfl,jq (vQ _ _),jq rfl⟩
   case round=>
    obtain⟨k,hk,rfl,cH,HT⟩:=hrel;have al:=cH.out.size;have HB:=aIX ah cH.out;have a4:=aIZ cH.out k4;have b4:=aIZ cH.out j4;by_cases aa:k<n
    ·obtain⟨x,hx⟩:∃ x,g1[k]?=some x:=⟨_,aQ (by rw[H3.out];exact aa)⟩;obtain⟨y,hy⟩:∃ y,g2[k]?=some y:=⟨_,aQ (by rw[H4.out];exact aa)⟩;obtain⟨b,o,c,sx,hv,bj,tY,_,f0,f1,f2,f3,f4,f5⟩:=pV (sO.out.keep bH HB.out) hx;obtain⟨b',o',c',sy,hv',AO,iC,_,e0,e1,e2,e3,e4,e5⟩:=pV (lI.out.keep bH HB.out) hy;simp only[Value.slice.injEq] at hv hv';obtain⟨rfl,_,_⟩:=hv;obtain⟨rfl,_,_⟩:=hv';have iJ:Hid (x=y->g1.take (k+1)=g2.take (k+1)):=jq (λe=>by
      obtain⟨q1,q2⟩:=cQ.1 hx;obtain⟨q3,q4⟩:=cQ.1 hy;rw[fQ q1,fQ q3,q2,q4,HT.out,e])
     have lK:Hid (x≠y->r=false):=jq (λe=>by
      rw[<-HR.out];refine tQ λh=>e ?_;have h2:=h.2;subst h2;rw[hx] at hy;simpa using hy)
     have bF:(0:Int)<=(k:Int):=by omega
     have bL:(k:Int)<(n:Int):=by omega
     have heq:=ZV sx sy x.key x.alg x.frm x.til y.key y.alg y.frm y.til x.sum y.sum;rw[asY tY iC] at heq;clear hx hy tY iC;by_cases bZ:x=y
     ·have HX:=jq (iJ.out bZ);have kS:decide (x≠y)=false:=by simpa using bZ
      rw[kS] at heq;clear kS bZ;go_wp2_with fail;go_quiet (fail);go_wp2_with fail;go_roundw
      case rel=>exact⟨k+1,by omega,by go_num,jq (below_drewN cH.out _),HX⟩
      case measure=>simp[intOf] <;> omega
     ·have HX:=jq (lK.out bZ);have kS:decide (x≠y)=true:=uQ bZ;rw[kS] at heq;clear kS bZ;go_wp2_with fail;go_quiet (fail);go_wp2_with fail;go_ret;exact⟨ae HX.out.symm,below_drewN HB.out _⟩
    ·have HX:Hid (r=true):=jq (by
      rw[<-HR.out];refine uQ ⟨of_decide_eq_true og.out,?_⟩
      have:=HT.out
      rwa [kQ (by rw[H3.out];omega),kQ (by rw[H4.out];omega)] at this)
     go_wp2_with fail;go_ret;exact⟨ae HX.out.symm,HB.out⟩
  ·have hne:(n:Int)≠(m:Int):=by omega
   have hd:decide ((n:Int)=(m:Int))=false:=tQ hne;have hb:((n:Int) == (m:Int))=false:=by simpa using hne
   have HX:Hid (r=false):=jq (by rw[<-HR.out];exact tQ λh=>BD (by rw[<-H3.out,<-H4.out,h.2]));go_wp2_with fail;go_ret;exact⟨ae HX.out.symm,ah.out⟩
end
section
open Go.RowKit Go.Sort Go.Shelf
def Np.o7(l:List Np.Span):Prop:=∀ s∈l,s.frm<s.til
theorem RB(v:Value)(ps:List Np.Span)(s:Np.Span)(bw:ps.length<=20000)(hp:Np.o7 ps)(hs:s.frm<s.til)(w:World)(h:SlR bA 2 w w.heap.size v (Np.bN ps)) :
 Calls prog 65 #[v,.agg #[.int .i64 s.frm,.int .i64 s.til]] w (λe w'=>∃ v',e = .returned v'/\aw w.heap.size w' v' (Np.bN (ps ++ [s]))/\Below w.heap.size w w'):=by
 have h1:=aCX v (Np.bN ps) s (by have:=mO ps;omega) hs w h;rwa [Kp _ _ (Np.sE hp).1 hs,Np.aCK hp hs] at h1
theorem Mm(v:Value)(l:List Np.Span)(bw:l.length<=20000)(hf:Np.o7 l)(w:World)(h:SlR bA 2 w w.heap.size v l) :
 Calls prog 64 #[v] w (λe w'=>∃ v',e = .returned v'/\aw w.heap.size w' v' (Np.bN l)/\Below w.heap.size w w'):=by
 have HD:=jq h;have HF:=jq hf;obtain⟨A,c,rfl,be,bC⟩:=aj h;clear h hf;go_enter func64,ntmps64;go_wp2_with fail;go_loopw [3,4] (λvo i wr=>∃ (k:Nat),k<=l.length/\i = .int .i64 k/\Hid (Below w.heap.size w wr)/\Hid (aw w.heap.size wr vo (Np.bN (l.take k)))) (λ_ i _=>l.length - (intOf i).toNat)
 case atStart=>exact⟨0,jQ _,rfl,jq (vQ _ _),jq (by rw[List.take_zero,Np.Z2];exact aw.nil _ _)⟩
 case round=>
  obtain⟨k,hk,rfl,HB,HO⟩:=hrel;have al:=HB.out.size;by_cases aa:k<l.length
  ·obtain⟨x,ab⟩:∃ x,l[k]?=some x:=⟨_,aQ aa⟩;have ci:=HD.out.keep bE HB.out;obtain⟨b,o,rfl⟩:=nS ci aa;obtain⟨bB,hat⟩:=ma ci ab;clear ci;have h0:=hat.c0;have h1:=hat.c1;have HT:Hid (l.take (k+1)=l.take k ++ [x]):=jq (by
    obtain⟨hl,he⟩:=cQ.1 ab;rw[fQ hl,he])
   have HX:Hid (x.frm<x.til):=jq (HF.out x (gQ ab));have uF:Hid (Np.o7 (l.take k)):=jq (λy hy=>HF.out y (List.mem_of_mem_take hy));have ku:Hid ((l.take k).length<=20000):=jq (by rw[List.length_take];omega);have HS:Hid (SlR bA 2 wr wr.heap.size u3 (Np.bN (l.take k))):=jq (HO.out.slr (by have:=mO (l.take k);have:=ku.out;omega));clear ab hat;go_wp2_with fail;refine (RB _ (l.take k) x ku.out uF.out HX.out _ HS.out).mono ?_;rintro e w2 ⟨v2,rfl,fw,ac⟩;have H2:=jq (And.intro (fw.weak al) (HB.out.trans (ac.mono al)));clear fw ac;go_wp2_with fail;go_roundw
   case rel=>exact⟨k+1,by omega,by go_num,jq H2.out.2,jq (by rw[HT.out];exact H2.out.1)⟩
   case measure=>simp[intOf] <;> omega
  ·have HE':Hid (l.take k=l):=jq (kQ (by omega));go_wp2_with fail;go_ret;exact⟨_,rfl,by have:=HO.out;rw[HE'.out] at this;exact this,HB.out⟩
theorem MV(v v':Value)(l m:List Np.Span)(aSQ:l.length<=10000)(aTY:m.length<=10000)(hf:Np.o7 l)(hg:Np.o7 m)(w:World)(h:SlR bA 2 w w.heap.size v l)(h':SlR bA 2 w w.heap.size v' m) :
 Calls prog 23 #[v,v'] w (λe w'=>∃ v',e = .returned v'/\aw w.heap.size w' v' (Np.bN (l++m))/\Below w.heap.size w w'):=by
 have HL:=jq h;have HD:=jq h';have mV:=jq hf;have HF:=jq hg;obtain⟨A,c,rfl,be,bC⟩:=aj h;obtain⟨A',c',rfl,NM,Bv⟩:=aj h';clear h h' hf hg;go_enter func23,ntmps23;go_wp2_with fail;refine (Mm _ l (by omega) mV.out _ HL.out).mono ?_;rintro e w1 ⟨v1,rfl,pO,aq⟩;have sT:=jq pO;have am:=jq aq;clear pO aq;go_wp2_with fail;go_loopw [5,6] (λvo i wr=>∃ (k:Nat),k<=m.length/\i = .int .i64 k/\Hid (Below w.heap.size w wr)/\Hid (aw w.heap.size wr vo (Np.bN (l++m.take k)))) (λ_ i _=>m.length - (intOf i).toNat)
 case atStart=>exact⟨0,jQ _,rfl,am,jq (by rw[List.take_zero,List.append_nil];exact sT.out)⟩
 case round=>
  obtain⟨k,hk,rfl,HB,HO⟩:=hrel;have al:=HB.out.size;by_cases aa:k<m.length
  ·obtain⟨x,ab⟩:∃ x,m[k]?=some x:=⟨_,aQ aa⟩;have ci:=HD.out.keep bE HB.out;obtain⟨b,o,rfl⟩:=nS ci aa;obtain⟨bB,hat⟩:=ma ci ab;clear ci;have h0:=hat.c0;have h1:=hat.c1;have HT:Hid (l++m.take (k+1)=(l++m.take k) ++ [x]):=jq (by
    obtain⟨hl,he⟩:=cQ.1 ab;rw[fQ hl,he,List.append_assoc])
   have HX:Hid (x.frm<x.til):=jq (HF.out x (gQ ab));have uF:Hid (Np.o7 (l++m.take k)):=jq (λy hy=>(List.mem_append.1 hy).elim (mV.out y) λhy=>HF.out y (List.mem_of_mem_take hy));have ku:Hid ((l++m.take k).length<=20000):=jq (by rw[List.length_append,List.length_take];omega);have HS:Hid (SlR bA 2 wr wr.heap.size u5 (Np.bN (l++m.take k))):=jq (HO.out.slr (by have:=mO (l++m.take k);have:=ku.out;omega));clear ab hat;go_wp2_with fail;refine (RB _ (l++m.take k) x ku.out uF.out HX.out _ HS.out).mono ?_;rintro e w2 ⟨v2,rfl,fw,ac⟩;have H2:=jq (And.intro (fw.weak al) (HB.out.trans (ac.mono al)));clear fw ac;go_wp2_with fail;go_roundw
   case rel=>exact⟨k+1,by omega,by go_num,jq H2.out.2,jq (by rw[HT.out];exact H2.out.1)⟩
   case measure=>simp[intOf] <;> omega
  ·have HE':Hid (m.take k=m):=jq (kQ (by omega));go_wp2_with fail;go_ret;exact⟨_,rfl,by have:=HO.out;rw[HE'.out] at this;exact this,HB.out⟩
theorem ZW(f u f' u':Int)(w:World):(binOp .neq 110 (.agg #[.int .i64 f,.int .i64 u]) (.agg #[.int .i64 f',.int .i64 u'])).run prog w = .ok (.bool (decide ((⟨f,u⟩:Np.Span)≠⟨f',u'⟩))) w:=by
 have u3:=underlying3;have a3:=isAgg3;have z3:=sizeOf3;have hS:prog.underlying 110=some (.struct (prog.fieldsOf 110)):=by kernel_rfl
 have hp:prog.stoodInHeld 110=false:=by kernel_rfl
 rw[run_neq_struct,show (10000:Nat)=9999+1 from rfl,run_equalIn_agg w 9999 110 _ _ hS hp];simp only[Program.fieldsOf,underlying110];go_simp;by_cases h1:f=f' <;> by_cases h2:u=u' <;> simp[h1,h2]
theorem Ch(v v':Value)(l m:List Np.Span)(w:World)(h:SlR bA 2 w w.heap.size v l)(h':SlR bA 2 w w.heap.size v' m) :
 Calls prog 21 #[v,v'] w (λe w'=>e = .returned (.bool (decide (l=m)))/\Below w.heap.size w w'):=by
 have HL:=jq h;have HM:=jq h';obtain⟨A,c,rfl,be,bC⟩:=aj h;obtain⟨A',c',rfl,NM,Bv⟩:=aj h';clear h h';by_cases hlen:l.length=m.length
 ·have sS:=jq hlen;obtain⟨n,hn⟩:=aJZ m.length;rw[hn] at NM Bv hlen;have HN:=jq hn;rw[hlen] at be bC;rw[hn,hlen];have qh:=jq hlen;clear hlen hn;go_enter func21,ntmps21;go_wp2_with fail;go_loopw [5] (λi wr=>∃ (k:Nat),k<=n/\i = .int .i64 k/\Hid (Below w.heap.size w wr)/\Hid (l.take k=m.take k)) (λi _=>n - (intOf i).toNat)
  case atStart=>exact⟨0,jQ _,rfl,jq (vQ _ _),jq rfl⟩
  case round=>
   obtain⟨k,hk,rfl,HB,HT⟩:=hrel;have al:=HB.out.size;by_cases aa:k<n
   ·have tH:=qh.out;have vT:=HN.out;obtain⟨x,hx⟩:∃ x,l[k]?=some x:=⟨_,aQ (by omega)⟩;obtain⟨y,hy⟩:∃ y,m[k]?=some y:=⟨_,aQ (by omega)⟩;have ci:=HL.out.keep bE HB.out;have uB:=HM.out.keep bE HB.out;rw[tH] at ci;rw[vT] at uB;obtain⟨b,o,rfl⟩:=nS (k:=k) ci (by omega);obtain⟨b',o',rfl⟩:=nS (k:=k) uB (by omega);obtain⟨bB,hat⟩:=ma ci hx;obtain⟨vD,yg⟩:=ma uB hy;have h0:=hat.c0;have h1:=hat.c1;have h0':=yg.c0;have h1':=yg.c1;have iJ:Hid (x=y->l.take (k+1)=m.take (k+1)):=jq (λe=>by
     obtain⟨q1,q2⟩:=cQ.1 hx;obtain⟨q3,q4⟩:=cQ.1 hy;rw[fQ q1,fQ q3,q2,q4,HT.out,e])
    have lK:Hid (x≠y->decide (l=m)=false):=jq (λe=>tQ (by rintro rfl;rw[hx] at hy;exact e (by simpa using hy)));have bF:(0:Int)<=(k:Int):=by omega
    have bL:(k:Int)<(n:Int):=by omega
    have heq:=ZW x.frm x.til y.frm y.til;clear ci uB hat yg hx hy tH vT;by_cases bZ:x=y
    ·have HX:=jq (iJ.out bZ);have kS:decide ((⟨x.frm,x.til⟩:Np.Span)≠⟨y.frm,y.til⟩)=false:=by rw[bZ];simp
     rw[kS] at heq;clear kS bZ;go_wp2_with fail;go_quiet (fail);go_wp2_with fail;go_roundw
     case rel=>exact⟨k+1,by omega,by go_num,jq (below_drewN HB.out _),HX⟩
     case measure=>simp[intOf] <;> omega
    ·have HX:=jq (lK.out bZ);have kS:decide ((⟨x.frm,x.til⟩:Np.Span)≠⟨y.frm,y.til⟩)=true:=uQ bZ;rw[kS] at heq;clear kS bZ;go_wp2_with fail;go_quiet (fail);go_wp2_with fail;go_ret;exact⟨ae HX.out.symm,below_drewN HB.out _⟩
   ·have HE:Hid (decide (l=m)=true):=jq (uQ (by
     have:=HT.out
     rwa [kQ (by have:=qh.out;omega),kQ (by have:=HN.out;omega)] at this))
    go_wp2_with fail;go_ret;exact⟨ae HE.out.symm,HB.out⟩
 ·have hne:(l.length:Int)≠(m.length:Int):=by omega
  have hd:decide ((l.length:Int)=(m.length:Int))=false:=tQ hne;have HE:Hid (decide (l=m)=false):=jq (tQ (by rintro rfl;exact hlen rfl));have hb:((l.length:Int) == (m.length:Int))=false:=by simpa using hne
  go_enter func21,ntmps21;go_wp2_with fail;go_ret;exact⟨ae HE.out.symm,vQ _ _⟩
end
namespace Np
def xU(s:Signed):Prop:=∀ g∈s.sigs,0<=g.sum/\g.sum<18446744073709551616
def nc(h:Hist):Prop:=∀ c∈h.copies,∀ s∈c.zone.sets,xU s
theorem aqX{c:UInt8}(h:sC c=true):c≠47:=by rintro rfl;revert h;decide
theorem EG{l:List UInt8}(h:aG l=true):47∉l:=λhm=>by
 obtain⟨_,rfl | ⟨c,r,rfl,_,hr⟩⟩:=wn h
 ·revert hm;decide
 ·exact aqX (List.all_eq_true.1 hr 47 hm) rfl
theorem V6{l:List UInt8}(h:kh l=true):47∉l:=λhm=>by
 unfold kh at h;simp only[Bool.and_eq_true] at h
 have:=List.all_eq_true.1 h.2 47 hm
 revert this;decide
theorem axY{k:Int}{l:List UInt8}(h:wP k l=true):47∉l:=by
 unfold wP at h;split at h
 ·simp only[Bool.and_eq_true] at h;exact EG h.1
 ·split at h
  ·exact EG h
  ·split at h
   ·exact V6 h
   ·have:l = []:=by simpa using h
    rw[this];simp
theorem QM(k:Int):0<=(bV k).leastN/\0<=(bV k).leastM:=by
 unfold bV;generalize k.toNat=n;by_cases h:n<9
 ·have:∀ m,m<9->0<=(rules.getD m ⟨0,0,0,0,0,false,false,false⟩).leastN/\0<=(rules.getD m ⟨0,0,0,0,0,false,false,false⟩).leastM:=by decide
  exact this n h
 ·have e:rules[n]?=none:=List.getElem?_eq_none (by simp[rules];omega);rw[List.getD_eq_getElem?_getD,e];decide
theorem Vx{k:Int}{d:Datum}(h:kn (bV k) d=true):47∉d.text/\0<=d.n/\0<=d.m:=by
 unfold kn at h;simp only[Bool.and_eq_true,Qa] at h;obtain⟨⟨⟨⟨h1,_⟩,h2,_⟩,_⟩,h3⟩:=h
 have:=QM k
 exact⟨axY h3,by omega,by omega⟩
theorem uq{z:Zone}(v:VZone z):aG z.apex=true/\∀ x∈z.sets,dC x.set=true:=by
 have h:=v.right;unfold eX at h;simp only[Bool.and_eq_true] at h;exact⟨h.1.1,Dz h.2⟩
theorem RP{z:Zone}(v:VZone z){x:Signed}(hx:x∈z.sets)(hs:xU x):Plain47 x:=by
 obtain⟨ha,hv⟩:=uq v;obtain⟨h1,h2,h3,h4,h5,h6,h7,h8⟩:=um (hv x hx);refine⟨EG h1,by omega,h4,λd hd=>Vx (Hl h8 d hd),λg hg=>?_⟩;obtain⟨i,hi⟩:=List.mem_iff_getElem?.1 hg
 have:=(v.form x hx).2 i g hi
 exact⟨by rw[this.zone];exact EG ha,by have:=this.key;omega,by have:=this.alg;omega,this.win.1,by have:=this.win;omega,(hs g hg).1⟩
def nL(us:List Signed):List (List UInt8×Value):=us.zipIdx.map λp=>(jH p.1,.int .i64 ((p.2:Nat):Int))
theorem Y8(us:List Signed)(s:Signed):nL (us ++ [s])=nL us ++ [(jH s,.int .i64 ((us.length:Nat):Int))]:=by
 unfold nL;rw[List.zipIdx_append,List.map_append];simp
theorem Py:∀ (us:List Signed) (n:Nat) (s:Signed),Plain47 s->(∀ x∈us,Plain47 x)->s∉us->((us.zipIdx n).map λp=>(jH p.1,Value.int .i64 ((p.2:Nat):Int))).lookup (jH s)=none
 | [],_,_,_,_,_=>rfl
 | x::us,n,s,hs,hu,hn=>by
   rw[List.zipIdx_cons,List.map_cons,List.lookup_cons];have hne:(jH s == jH x)=false:=by
    rw[beq_eq_false_iff_ne];intro e;exact hn (by rw[Px hs (hu x (by simp)) e];simp)
   rw[hne];exact Py us (n+1) s hs (λy hy=>hu y (mQ _ hy)) (λh=>hn (mQ _ h))
theorem Y7{us:List Signed}{s:Signed}(hs:Plain47 s)(hu:∀ x∈us,Plain47 x)(hn:s∉us):(nL us).lookup (jH s)=none:=Py us 0 s hs hu hn
theorem Pz:∀ (us:List Signed) (n:Nat) (s:Signed) (i:Nat),Plain47 s->(∀ x∈us,Plain47 x)->us.Nodup->us[i]?=some s->((us.zipIdx n).map λp=>(jH p.1,Value.int .i64 ((p.2:Nat):Int))).lookup (jH s)=some (.int .i64 ((n+i:Nat):Int))
 | [],_,_,_,_,_,_,h=>by simp at h
 | x::us,n,s,i,hs,hu,hd,h=>by
   rw[List.zipIdx_cons,List.map_cons,List.lookup_cons]
   cases i with
   | zero=>
    have e:x=s:=by simpa using h
    subst e;simp
   | succ i=>
    have h':us[i]?=some s:=by simpa using h
    have hne:(jH s == jH x)=false:=by
     rw[beq_eq_false_iff_ne];intro e
     have:=Px hs (hu x (by simp)) e
     subst this;exact (List.nodup_cons.1 hd).1 (gQ h')
    rw[hne]
    have:=Pz us (n+1) s i hs (λy hy=>hu y (mQ _ hy)) (List.nodup_cons.1 hd).2 h'
    rw[show n+(i+1)=n+1+i by omega];exact this
theorem Y9{us:List Signed}{s:Signed}{i:Nat}(hs:Plain47 s)(hu:∀ x∈us,Plain47 x)(hd:us.Nodup)(h:us[i]?=some s):(nL us).lookup (jH s)=some (.int .i64 ((i:Nat):Int)):=by
 have:=Pz us 0 s i hs hu hd h
 rwa [Nat.zero_add] at this
def eH(ps:List (Span×Signed)):List (Signed×List Span):=(cF (ps.map (·.2))).map λs=>(s,eq ps s)
theorem ZE(ps:List (Span×Signed)):(eH ps).map (·.1)=cF (ps.map (·.2)):=by
 unfold eH;rw[List.map_map];exact List.map_id'' (λ_=>rfl) _
theorem ZF(f:List Span->List Span)(zone:List UInt8)(ps:List (Span×Signed)):kH f zone ps=(eH ps).map λx=>⟨zone,x.1,f x.2,[]⟩:=by
 unfold kH eH;rw[List.map_map];rfl
theorem ZH{ps:List (Span×Signed)}{p:Span×Signed}(h:p.2∉cF (ps.map (·.2))):eH (ps ++ [p])=eH ps ++ [(p.2,[p.1])]:=by
 have hn:p.2∉ps.map (·.2):=λhm=>h (wl.2 hm);unfold eH;rw[List.map_append,List.map_singleton,Cv,kB,Qc h,List.map_append];congr 1
 ·refine List.map_congr_left λs hs=>?_;rw[ul,Qc (show ¬ p.2=s from λe=>h (by rw[e];exact hs))]
 ·simp[ul,Ri hn]
theorem ZI{ps:List (Span×Signed)}{p:Span×Signed}{i:Nat}(h:(cF (ps.map (·.2)))[i]?=some p.2):eH (ps ++ [p])=(eH ps).set i (p.2,eq ps p.2 ++ [p.1]):=by
 obtain⟨hi,he⟩:=cQ.1 h;have hm:p.2∈cF (ps.map (·.2)):=by rw[<-he];exact List.getElem_mem _
 have pN:=wt (ps.map (·.2));have hu:cF ((ps ++ [p]).map (·.2))=cF (ps.map (·.2)):=by rw[List.map_append,List.map_singleton,Cv,GV hm]
 refine List.ext_getElem? λj=>?_;rw[List.getElem?_set];unfold eH;rw[hu,List.getElem?_map,List.getElem?_map,List.length_map];by_cases dE:i=j
 ·subst dE;rw[Qb rfl,Qb hi,h,Option.map_some,ul,Qb rfl]
 ·rw[Qc dE]
  cases hj:(cF (ps.map (·.2)))[j]? with
  | none=>rfl
  | some s=>
   obtain⟨rO,tD⟩:=cQ.1 hj;have hne:p.2≠s:=λe=>dE ((List.getElem_inj (h₀:=hi) (h₁:=rO) pN).1 (he.trans (e.trans tD.symm)));rw[Option.map_some,Option.map_some,ul,Qc hne]
theorem ZG(ps:List (Span×Signed)):(eH ps).length=(cF (ps.map (·.2))).length:=List.length_map _
end Np
section
open Go.RowKit
theorem ll.fresh(b:Nat)(r:Option Nat)(W:World)(T:TypeId)(ns:List Int)(hb:b<W.heap.size)(hr:∀ k,r=some k->k<W.heap.size):ll b r (W.alloc (.cells (ns.map (Value.int .i64)).toArray T)) (.slice (some ⟨W.heap.size,0,none⟩) ns.length ns.length) ns:=by
 refine⟨_,_,rfl,bQ _,λi x hx=>⟨W.heap.size,0,rfl,by simp,by omega,λe=>by have:=hr _ e;omega,?_⟩⟩;rw[World.cell?_alloc_new];simp[hx]
structure KeyS(s:Np.Signed):Prop where
 name:s.set.name.length<=1000
 type:0<=s.set.type/\s.set.type<=1000000000
 life:0<=s.set.life/\s.set.life<=1000000000
 few:s.set.data.length<=100
 data:∀ d∈s.set.data,d.text.length<=1000/\(0<=d.n/\d.n<=1000000000)/\0<=d.m/\d.m<=1000000000
 fewS:s.sigs.length<=100
 sigs:∀ g∈s.sigs,g.zone.length<=1000/\(0<=g.key/\g.key<=1000000000)/\(0<=g.alg/\g.alg<=1000000000)/\(0<=g.frm/\g.frm<=1000000000)/\(0<=g.til/\g.til<=1000000000)/\0<=g.sum/\g.sum<18446744073709551616
def ng(f:List (List UInt8))(d:List Np.Datum):List UInt8:=Np.gP (f++d.flatMap Np.tp)
def nh(f:List (List UInt8))(g:List Np.Sig):List UInt8:=Np.gP (f++g.flatMap Np.sG)
theorem Us{f:List (List UInt8)}{d:List Np.Datum}{k:Nat}{x:Np.Datum}(hx:d[k]?=some x):ng f (d.take (k+1))=ng f (d.take k)++Np.gP (x.text :: [x.n,x.m].map Np.cT):=by
 obtain⟨hl,he⟩:=cQ.1 hx;rw[fQ hl,he];unfold ng;rw[List.flatMap_append,<-List.append_assoc,VC];rfl
theorem Ut{f:List (List UInt8)}{d:List Np.Sig}{k:Nat}{x:Np.Sig}(hx:d[k]?=some x):nh f (d.take (k+1))=nh f (d.take k)++Np.gP (x.zone :: [x.key,x.alg,x.frm,x.til].map Np.cT)++Np.gP (Np.cT x.sum::([]:List Int).map Np.cT):=by
 obtain⟨hl,he⟩:=cQ.1 hx;rw[fQ hl,he];unfold nh;simp[Np.gP,Np.sG]
theorem Do{s:List UInt8}{ns:List Int}(hs:s.length<=1000)(hn:ns.length<=4)(h:∀ n∈ns,n<=1000000000):(Np.gP (s::ns.map Np.cT)).length<=1900:=by
 have:=Qn ns s (λn hm=>by have:=h n hm;omega)
 rw[JR] at this;omega
theorem axX(s:ByteArray)(ty life:Int)(dv sv:Value)(d:List Np.Datum)(g:List Np.Sig)(w:World)(hP:iL w)(hK:KeyS ⟨⟨s.data.toList,ty,life,d⟩,g⟩)(hd:SlR cA 3 w w.heap.size dv d)(hg:SlR de 6 w w.heap.size sv g) :
 Calls prog 139 #[.agg #[.string s,.int .i64 ty,.int .i64 life,dv,sv]] w λe w'=>e = .returned (aC (Np.jH ⟨⟨s.data.toList,ty,life,d⟩,g⟩))/\Below w.heap.size w w':=by
 have HK:=jq hK;have HD:=jq hd;have HG:=jq hg;have HP:=jq hP;have Ia:=hP.lt;have F4:Hid (∀ f,f = [s.data.toList,Np.cT ty,Np.cT life,Np.cT d.length]->nh (f++d.flatMap Np.tp) g=Np.jH ⟨⟨s.data.toList,ty,life,d⟩,g⟩):=jq (λf hf=>by subst hf;unfold nh Np.jH Np.Ak;rw[List.append_assoc]);have CN:Hid (Np.gP (s.data.toList :: [ty,life,(d.length:Int)].map Np.cT)=ng [s.data.toList,Np.cT ty,Np.cT life,Np.cT d.length] []):=jq (by simp[ng]);have al:s.size<=1000:=by have:=hK.name;rw[<-bk];exact this
 have AZ:d.length<=100:=hK.few;have Bg:g.length<=100:=hK.fewS;obtain⟨A1,c1,rfl,_,_⟩:=aj hd;obtain⟨A2,c2,rfl,_,_⟩:=aj hg;obtain⟨n1,bK⟩:=aJZ d.length;obtain⟨n2,bY⟩:=aJZ g.length;rw[bK] at HD F4 CN AZ |-;rw[bY] at HG Bg |-;have mo:=jq bK;have li:=jq bY;clear bK bY hd hg hK hP;obtain⟨f0,oG⟩:∃ f0,[s.data.toList,Np.cT ty,Np.cT life,Np.cT n1]=f0:=⟨_,rfl⟩;have pi:=jq (F4.out f0 oG.symm);rw[oG] at CN;clear oG F4;obtain⟨X,hX⟩:=aJZ w.heap.size;obtain⟨Y,hY⟩:=aJZ (X+1);obtain⟨W0,eM⟩:=aJZ (w.alloc (.cells #[.string s,.int .i64 ty,.int .i64 life,.slice A1 n1 c1,.slice A2 n2 c2] 42));have di:W0.heap.size=Y:=by rw[<-eM,<-hY,<-hX];simp
 obtain⟨W1,an⟩:=aJZ (W0.alloc (.cells #[.pointer none,.slice none 0 0] 198));have bW:Below X w W0:=by rw[<-eM];exact (vQ _ _).alloc (Nat.le_of_eq hX.symm) _
 have aq:Below Y W0 W1:=by rw[<-an];exact (vQ _ _).alloc (Nat.le_of_eq di.symm) _
 have ba:W1.heap.size=Y+1:=by rw[<-an,<-di];simp
 have R4:Hid (Bld 198 Y Y none [] W1):=jq (by rw[<-an,<-di];exact Bld.fresh _ _);have k0:W1.cell? ⟨X,0,none⟩=some (.string s):=aIZ aq (by rw[<-eM,<-hX];simp[go_sem]);have k1:W1.cell? ⟨X,1,none⟩=some (.int .i64 ty):=aIZ aq (by rw[<-eM,<-hX];simp[go_sem]);have k2:W1.cell? ⟨X,2,none⟩=some (.int .i64 life):=aIZ aq (by rw[<-eM,<-hX];simp[go_sem]);have k3:W1.cell? ⟨X,3,none⟩=some (.slice A1 n1 c1):=aIZ aq (by rw[<-eM,<-hX];simp[go_sem]);have k4:W1.cell? ⟨X,4,none⟩=some (.slice A2 n2 c2):=aIZ aq (by rw[<-eM,<-hX];simp[go_sem]);obtain⟨W2,Id⟩:=aJZ (W1.alloc (.cells #[.int .i64 ty,.int .i64 life,.int .i64 (n1:Int)] 3));have ac:Below W1.heap.size W1 W2:=by rw[<-Id];exact (vQ _ _).alloc (bQ _) _
 have Tu:Hid (ll Y none W2 (.slice (some ⟨Y+1,0,none⟩) 3 3) [ty,life,(n1:Int)]):=jq (by rw[<-Id,<-ba];exact ll.fresh Y none W1 _ [ty,life,(n1:Int)] (by omega) (λk h=>by cases h));have aO:Hid (Below Y W0 W2):=jq (aq.trans (ac.aKZ));have aD:=jq bW;have uw:=jq ac;have NE:X<W1.heap.size:=by omega
 have WE:Y<W1.heap.size:=by omega
 clear bW aq ac;rw[hX] at HD HG Ia |-;go_enter func139,ntmps139;go_wp2_with fail;have aN:Y+1<=W2.heap.size:=by have:=uw.out.size;omega
 have j3:=aIZ uw.out k3;have j4:=aIZ uw.out k4;have zx:Hid (iL W2):=jq (HP.out.keepAt (aD.out.trans (aO.out.aKZ)) (by omega));clear k0 k1 k2 k3 k4 eM an Id hX NE WE;have rq:Hid (∀ n∈[ty,life,(n1:Int)],0<=n/\n<=1000000000):=jq (λn hn=>by
  have h1:=HK.out.type;have h2:=HK.out.life;dsimp only at h1 h2;simp only[List.mem_cons,Qh,or_false] at hn;rcases hn with rfl | rfl | rfl <;> omega)
 refine (EO Y Y none [] s _ _ W2 (R4.out.keep uw.out) Tu.out (λn hn=>by have:=rq.out n hn;omega) (by simp) (by omega) (by simp) (by omega) zx.out (by omega)).mono ?_;rintro e w3 ⟨rfl,r3,nB,dG⟩;rw[CN.out] at nB;have ak:Below Y W2 w3:=dG.below (bQ _) (λk h=>by cases h) (by omega);have Tg:Hid (Bld 198 Y Y r3 (ng f0 []) w3):=jq (by simpa using nB);have gV:=ak.size;have i3:=aIZ ak j3;have i4:=aIZ ak j4;have aA:Hid (Below X w w3):=jq (aD.out.trans ((aO.out.trans ak).aKZ));have mU:Hid ((ng f0 []).length<=2000):=jq (by
  rw[<-CN.out]
  have:=Do (s:=s.data.toList) (ns:=[ty,life,(n1:Int)]) HK.out.name (by simp) (λn hn=>(rq.out n hn).2)
  omega)
 clear nB dG ak j3 j4;go_wp2_with fail;go_loopw [30] (λi wr=>∃ (k:Nat) (r:Option Nat),k<=n1/\i = .int .i64 k/\Y+1<=wr.heap.size/\Hid (Bld 198 Y Y r (ng f0 (d.take k)) wr)/\Hid (Below Y w3 wr)/\Hid ((ng f0 (d.take k)).length<=2000 * (k+1))) (λi _=>n1 - (intOf i).toNat)
 case atStart=>exact⟨0,r3,jQ _,rfl,by omega,by simpa using Tg,jq (vQ _ _),by simpa using mU⟩
 case round=>
  obtain⟨k,r,hk,rfl,NG,HL,cH,HA⟩:=hrel;have HB:=aIX aA cH.out;have q3:=aIZ cH.out i3;have q4:=aIZ cH.out i4;by_cases aa:k<n1
  ·obtain⟨x,ab⟩:∃ x,d[k]?=some x:=⟨_,aQ (by rw[mo.out];exact aa)⟩;obtain⟨b,o,c',t,hA,bj,_,ht,Jf,g0,g1,g2⟩:=G8 (HD.out.keep bD HB.out) ab;simp only[Value.slice.injEq] at hA;obtain⟨rfl,-,rfl⟩:=hA;have HT:=jq (Us (f:=f0) ab);have HX:=jq (HK.out.data x (gQ ab));have GH:=jq ht;have t6:t.size<=1000:=by rw[<-bk,ht];exact HX.out.1
   clear ab ht Jf;have bF:(0:Int)<=(k:Int):=by omega
   have bL:(k:Int)<(n1:Int):=by omega
   obtain⟨w4,cg⟩:=aJZ (wr.alloc (.cells #[.string t,.int .i64 x.n,.int .i64 x.m] 128));have jm:w4.heap.size=wr.heap.size+1:=by rw[<-cg];simp
   have ar:Below wr.heap.size wr w4:=by rw[<-cg];exact (vQ _ _).alloc (bQ _) _
   have p0:w4.cell? ⟨wr.heap.size,0,none⟩=some (.string t):=by rw[<-cg];simp[go_sem]
   have p1:w4.cell? ⟨wr.heap.size,1,none⟩=some (.int .i64 x.n):=by rw[<-cg];simp[go_sem]
   have p2:w4.cell? ⟨wr.heap.size,2,none⟩=some (.int .i64 x.m):=by rw[<-cg];simp[go_sem]
   obtain⟨w5,aJ⟩:=aJZ (w4.alloc (.cells #[.int .i64 x.n,.int .i64 x.m] 3));have av:Below w4.heap.size w4 w5:=by rw[<-aJ];exact (vQ _ _).alloc (bQ _) _
   have pB:Below wr.heap.size wr w5:=ar.trans (av.aKZ);have xy:Hid (ll Y r w5 (.slice (some ⟨wr.heap.size+1,0,none⟩) 2 2) [x.n,x.m]):=jq (by rw[<-aJ,<-jm];exact ll.fresh Y r w4 _ [x.n,x.m] (by omega) (λk h=>by have:=(HL.out.row.2.2 k h).2;omega));have qg:=jq (HL.out.keep pB);have sU:Hid (iL w5):=jq (HP.out.keepAt (HB.out.trans (pB.aKZ)) Ia);have kT:=pB.size;have xl:=jq pB;clear ar av pB;go_wp2_with fail;clear cg aJ p0 p1 p2;refine (EO Y Y r _ t _ _ w5 qg.out xy.out (λn hn=>by
    have h1:=HX.out.2;simp only[List.mem_cons,Qh,or_false] at hn;rcases hn with rfl | rfl <;> omega) (by have:=HA.out;omega) (by omega) (by simp) (by omega) sU.out (by omega)).mono ?_
   rw[GH.out,<-HT.out];rintro e w6 ⟨rfl,r6,Bw,mM⟩;have aL:Below Y w5 w6:=mM.below (bQ _) (λk h=>(qg.out.row.2.2 k h).1) (by omega);have H6:=jq (And.intro Bw (cH.out.trans ((xl.out.aKZ).trans aL)));have kf:=aL.size;have fF:Hid ((ng f0 (d.take (k+1))).length<=2000 * (k+1+1)):=jq (by
    rw[HT.out,List.length_append]
    have:=HA.out
    have:=Do (s:=x.text) (ns:=[x.n,x.m]) HX.out.1 (by simp) (λn hn=>by
     have h1:=HX.out.2;simp only[List.mem_cons,Qh,or_false] at hn;rcases hn with rfl | rfl <;> omega)
    omega)
   clear Bw mM aL;go_wp2_with fail;go_roundw
   case rel=>exact⟨k+1,r6,by omega,by go_num,by omega,jq H6.out.1,jq H6.out.2,fF⟩
   case measure=>simp[intOf] <;> omega
  ·have jS:Hid (d.take k=d):=jq (kQ (by rw[mo.out];omega));have xg:Hid ((ng f0 d).length<=202000):=jq (by have:=HA.out;rw[jS.out] at this;omega);rw[jS.out] at HL;go_wp2_with fail;clear aa hk;obtain⟨wo,rfl⟩:=aKQ wr;obtain⟨f1,oH⟩:=aJZ (f0++d.flatMap Np.tp);have zl:=jq pi.out;rw[oH] at zl;have Tj:Hid (Bld 198 Y Y r (nh f1 []) wo):=jq (by have:=HL.out;unfold ng at this;rw[oH] at this;simpa [nh] using this);have HAS:Hid ((nh f1 []).length<=202000):=jq (by have:=xg.out;unfold ng at this;rw[oH] at this;simpa [nh] using this);clear oH;go_loopw [47] (λi wr=>∃ (k:Nat) (r:Option Nat),k<=n2/\i = .int .i64 k/\Y+1<=wr.heap.size/\Hid (Bld 198 Y Y r (nh f1 (g.take k)) wr)/\Hid (Below Y wo wr)/\Hid ((nh f1 (g.take k)).length<=202000+4000 * k)) (λi _=>n2 - (intOf i).toNat)
   case atStart=>exact⟨0,r,jQ _,rfl,by omega,by simpa using Tj,jq (vQ _ _),by simpa using HAS⟩
   case round=>
    obtain⟨k,r,hk,rfl,NG,HL,dD,HA⟩:=hrel;have HC:=aIX HB dD.out;have s4:=aIZ dD.out q4;by_cases aa:k<n2
    ·obtain⟨x,ab⟩:∃ x,g[k]?=some x:=⟨_,aQ (by rw[li.out];exact aa)⟩;obtain⟨b,o,c',t,hA,bj,ht,Jf,g0,g1,g2,g3,g4,g5⟩:=pV (HG.out.keep bH HC.out) ab;simp only[Value.slice.injEq] at hA;obtain⟨rfl,-,rfl⟩:=hA;have HT:=jq (Ut (f:=f1) ab);have HX:=jq (HK.out.sigs x (gQ ab));have GH:=jq ht;have t6:t.size<=1000:=by rw[<-bk,ht];exact HX.out.1
     clear ab ht Jf;have bF:(0:Int)<=(k:Int):=by omega
     have bL:(k:Int)<(n2:Int):=by omega
     have C4:Hid (∀ n∈[x.key,x.alg,x.frm,x.til],0<=n/\n<=1000000000):=jq (λn hn=>by
      have h1:=HX.out.2;simp only[List.mem_cons,Qh,or_false] at hn;rcases hn with rfl | rfl | rfl | rfl <;> omega)
     obtain⟨w4,cg⟩:=aJZ (wr.alloc (.cells #[.string t,.int .i64 x.key,.int .i64 x.alg,.int .i64 x.frm,.int .i64 x.til,.int .u64 x.sum] 50));have jm:w4.heap.size=wr.heap.size+1:=by rw[<-cg];simp
     have ar:Below wr.heap.size wr w4:=by rw[<-cg];exact (vQ _ _).alloc (bQ _) _
     have p0:w4.cell? ⟨wr.heap.size,0,none⟩=some (.string t):=by rw[<-cg];simp[go_sem]
     have p1:w4.cell? ⟨wr.heap.size,1,none⟩=some (.int .i64 x.key):=by rw[<-cg];simp[go_sem]
     have p2:w4.cell? ⟨wr.heap.size,2,none⟩=some (.int .i64 x.alg):=by rw[<-cg];simp[go_sem]
     have p3:w4.cell? ⟨wr.heap.size,3,none⟩=some (.int .i64 x.frm):=by rw[<-cg];simp[go_sem]
     have p4:w4.cell? ⟨wr.heap.size,4,none⟩=some (.int .i64 x.til):=by rw[<-cg];simp[go_sem]
     have p5:w4.cell? ⟨wr.heap.size,5,none⟩=some (.int .u64 x.sum):=by rw[<-cg];simp[go_sem]
     obtain⟨w5,aJ⟩:=aJZ (w4.alloc (.cells #[.int .i64 x.key,.int .i64 x.alg,.int .i64 x.frm,.int .i64 x.til] 3));have av:Below w4.heap.size w4 w5:=by rw[<-aJ];exact (vQ _ _).alloc (bQ _) _
     have pB:Below wr.heap.size wr w5:=ar.trans (av.aKZ);have xy:Hid (ll Y r w5 (.slice (some ⟨wr.heap.size+1,0,none⟩) 4 4) [x.key,x.alg,x.frm,x.til]):=jq (by rw[<-aJ,<-jm];exact ll.fresh Y r w4 _ [x.key,x.alg,x.frm,x.til] (by omega) (λk h=>by have:=(HL.out.row.2.2 k h).2;omega));have o5:=aIZ av p5;have kw:Hid (∀ k,r=some k->k<wr.heap.size):=jq (λk h=>(HL.out.row.2.2 k h).2);have qg:=jq (HL.out.keep pB);have sU:Hid (iL w5):=jq (HP.out.keepAt (HC.out.trans (pB.aKZ)) Ia);have kT:=pB.size;have aZK:=av.size;have xl:=jq pB;clear ar av pB;go_wp2_with fail;clear cg aJ p0 p1 p2 p3 p4 p5;refine (EO Y Y r _ t _ _ w5 qg.out xy.out (λn hn=>by have:=C4.out n hn;omega) (by have:=HA.out;omega) (by omega) (by simp) (by omega) sU.out (by omega)).mono ?_;rw[GH.out];rintro e w6 ⟨rfl,r6,Bw,mM⟩;have aL:Below Y w5 w6:=mM.below (bQ _) (λk h=>(qg.out.row.2.2 k h).1) (by omega);have KY:Hid ((Np.gP (x.zone :: [x.key,x.alg,x.frm,x.til].map Np.cT)).length<=1900):=jq (Do HX.out.1 (by simp) (λn hn=>(C4.out n hn).2));have t5:=(mM.cell (k:=wr.heap.size) (by omega) (by omega) (λe=>by have:=kw.out _ e;omega) 5).trans o5;have Th:=jq Bw;have WN:=jq (dD.out.trans ((xl.out.aKZ).trans aL));have kf:=aL.size;have LD:Hid (iL w6):=jq (sU.out.keepAt aL (by omega));clear Bw mM aL o5;go_wp2_with fail;refine (V0 x.sum HX.out.2.2.2.2.2.1 HX.out.2.2.2.2.2.2 w6 LD.out).mono ?_;rintro e w7 ⟨rfl,cW⟩;have qG:=cW.size;have CS:=jq (Th.out.keep cW);have TA:=jq (LD.out.keep cW);have fG:=aIX WN cW;have sW:Hid ((⟨(Np.cT x.sum).toArray⟩:ByteArray).size<=100):=jq (by rw[<-bk];have:=Ai HX.out.2.2.2.2.2.2;simp;omega);clear cW t5;go_wp2_with fail;refine (EO Y Y r6 _ ⟨(Np.cT x.sum).toArray⟩ _ [] w7 CS.out (ll.nil _ _ _) (λn hn=>by cases hn) (by have:=HA.out;have:=KY.out;rw[List.length_append];omega) (by have:=sW.out;omega) (by simp) (by omega) TA.out (by omega)).mono ?_;rintro e w8 ⟨rfl,r8,Oo,OR⟩;have dt:Below Y w7 w8:=OR.below (bQ _) (λk h=>(CS.out.row.2.2 k h).1) (by omega);have qH:=dt.size;have H8:Hid (Bld 198 Y Y r8 (nh f1 (g.take (k+1))) w8/\Below Y wo w8):=jq ⟨by rw[HT.out];simpa using Oo,fG.out.trans dt⟩;have nW:Hid ((nh f1 (g.take (k+1))).length<=202000+4000 * (k+1)):=jq (by
      rw[HT.out,List.length_append,List.length_append]
      have:=HA.out
      have:=KY.out
      have:=Do (s:=Np.cT x.sum) (ns:=[]) (by have:=Ai HX.out.2.2.2.2.2.2;omega) (by simp) (λn hn=>by cases hn)
      omega)
     clear Oo OR dt;go_wp2_with fail;go_roundw
     case rel=>exact⟨k+1,r8,by omega,by go_num,by omega,jq H8.out.1,jq H8.out.2,nW⟩
     case measure=>simp[intOf] <;> omega
    ·have jS:Hid (g.take k=g):=jq (kQ (by rw[li.out];omega));rw[jS.out] at HL;go_wp2_with fail;refine (avX Y Y _ wr HL.out.read).mono ?_;rw[zl.out];rintro e w9 ⟨rfl,_,dU⟩;have fH:=aIX HC dU;clear dU;go_wp2_with fail;go_ret;exact⟨rfl,fH.out⟩
end
namespace Np
def im(x:Signed)(drift til:Int):Int:=
 match x.sigs with
 | []=>til - 1+max x.set.life 1+2 * drift
 | g::_=>min (til - 1+max x.set.life 1+2 * drift) (g.til+drift+1)
def fO(x:Signed)(drift:Int)(s:Span):Span:=⟨s.frm,max s.til (im x drift s.til)⟩
def gN(x:Held)(drift:Int):List Span:=bN (x.fresh.map (fO x.signed drift))
def pubAll(h:Hist):List Held:=(apexes h.copies).flatMap λz=>pub h.copies z
def jd(h:Hist):List Held:=(pubAll h).map λx=>{ x with spans:=gN x h.drift }
theorem Ni{x:Signed}{d:Int}{l:List Span}(h:∀ s∈l,s.frm<s.til):∀ s∈l.map (fO x d),s.frm<s.til:=λs hs=>by
 obtain⟨r,hr,rfl⟩:=List.mem_map.1 hs
 have:=h r hr
 show r.frm<max r.til (im x d r.til);omega
theorem azY{x:Held}{d:Int}(h:∀ s∈x.fresh,s.frm<s.til):ApartS (gN x d):=(sE (Ni h)).1
theorem Pn{x:Held}{d t:Int}(h:∀ s∈x.fresh,s.frm<s.til):inS (gN x d) t↔∃ s∈x.fresh,s.frm<=t/\(t<s.til\/t<im x.signed d s.til):=by
 unfold gN;rw[(sE (Ni h)).2];unfold inS;constructor
 ·rintro⟨s,hs,h1,h2⟩;obtain⟨r,hr,rfl⟩:=List.mem_map.1 hs;refine⟨r,hr,h1,?_⟩;have h3:t<max r.til (im x.signed d r.til):=h2;omega
 ·rintro⟨r,hr,h1,h2⟩;refine⟨_,List.mem_map.2 ⟨r,hr,rfl⟩,h1,?_⟩;show t<max r.til (im x.signed d r.til);omega
theorem JG{h:Hist}{x:Held} : x∈pubAll h↔∃ z∈apexes h.copies,x∈pub h.copies z:=by
 unfold pubAll;rw[List.mem_flatMap]
theorem P2(c:Copy)(z:List UInt8):(cL [c] z).length=if c.zone.apex=z then c.zone.sets.length else 0:=by
 unfold cL tm;rw[List.filter_cons,List.filter_nil];by_cases h:c.zone.apex=z
 ·have hb:(c.zone.apex == z)=true:=by rw[h];simp
  rw[Qb h,hb,Qb rfl];simp[nO]
 ·have hb:(c.zone.apex == z)=false:=by simpa using h
  rw[Qc h,hb];simp
theorem P3(c:Copy):∀ zs:List (List UInt8),zs.Nodup->(zs.map λz=>(cL [c] z).length).sum<=c.zone.sets.length
 | [],_=>by simp
 | z::zs,h=>by
   obtain⟨h1,h2⟩:=List.nodup_cons.1 h;rw[List.map_cons,List.sum_cons,P2];by_cases e:c.zone.apex=z
   ·rw[Qb e];have h0:(zs.map λz=>(cL [c] z).length).sum=0:=by
     rw[List.sum_eq_zero_iff_forall_eq_nat];intro n hn;obtain⟨y,hy,rfl⟩:=List.mem_map.1 hn;rw[P2,Qc (λe2=>h1 (by rw[<-e,e2];exact hy))]
    omega
   ·rw[Qc e,Nat.zero_add];exact P3 c zs h2
theorem Rd{α:Type}(f g:α->Nat):∀ l:List α,(l.map λx=>f x+g x).sum=(l.map f).sum+(l.map g).sum
 | []=>rfl
 | x::l=>by
   have:=Rd f g l
   simp only[List.map_cons,List.sum_cons];omega
theorem P1{n:Nat} : ∀ (l:List Copy),(∀ c∈l,c.zone.sets.length<=n)->∀ zs:List (List UInt8),zs.Nodup->(zs.map λz=>(cL l z).length).sum<=l.length * n
 | [],_,zs,_=>by
   have:(zs.map λz=>(cL [] z).length).sum=0:=by
    rw[List.sum_eq_zero_iff_forall_eq_nat];intro n hn;obtain⟨y,hy,rfl⟩:=List.mem_map.1 hn;rfl
   omega
 | c::l,h,zs,hz=>by
   have h1:=P1 l (λd hd=>h d (mQ _ hd)) zs hz;have h2:=P3 c zs hz;have h3:=h c (by simp);have e:(zs.map λz=>(cL (c::l) z).length)=zs.map λz=>(cL [c] z).length+(cL l z).length:=by
    refine List.map_congr_left λz _=>?_
    have:=EK [c] l z
    rw[List.singleton_append] at this;rw[this,List.length_append]
   rw[e,Rd,List.length_cons,Nat.add_mul,Nat.one_mul];omega
theorem afZ(l:List Copy)(z:List UInt8):(pub l z).length<=(cL l z).length:=by
 unfold pub;rw[N6]
 have:=wO ((cL l z).map (·.2))
 rwa [List.length_map] at this
theorem Re{α:Type}{f g:α->Nat}(h:∀ x,f x<=g x):∀ l:List α,(l.map f).sum<=(l.map g).sum
 | []=>bQ _
 | x::l=>by
   have:=Re h l
   have:=h x
   simp only[List.map_cons,List.sum_cons];omega
theorem UF(l:List Copy):(apexes l).Nodup:=by
 unfold apexes;exact (E3 _).nodup_iff.2 (wt _)
def pubTo(h:Hist)(k:Nat):List Held:=((apexes h.copies).take k).flatMap λz=>pub h.copies z
theorem Qg{h:Hist}{k:Nat}{z:List UInt8}(hz:(apexes h.copies)[k]?=some z):pubTo h (k+1)=pubTo h k++pub h.copies z:=by
 obtain⟨hl,he⟩:=cQ.1 hz;unfold pubTo;rw[fQ hl,he,List.flatMap_append];simp
theorem JP{h:Hist}{k:Nat}(hk:(apexes h.copies).length<=k):pubTo h k=pubAll h:=by
 unfold pubTo pubAll;rw[kQ hk]
theorem Qf{h:Hist}{n m:Nat}(hn:∀ c∈h.copies,c.zone.sets.length<=n)(hm:h.copies.length<=m)(k:Nat):(pubTo h k).length<=m * n:=by
 unfold pubTo;rw[List.length_flatMap];refine yQ (Re (λz=>afZ h.copies z) _) (yQ (P1 h.copies hn _ ((UF _).sublist (List.take_sublist _ _))) (Nat.mul_le_mul_right n hm))
theorem aeK{h:Hist}{n m:Nat}(hn:∀ c∈h.copies,c.zone.sets.length<=n)(hm:h.copies.length<=m):(pubAll h).length<=m * n:=by
 rw[<-JP (bQ _)];exact Qf hn hm _
def ox(d:Int)(l:List Held)(k:Nat):List Held:=(l.take k).map (λx=>{ x with spans:=gN x d })++l.drop k
theorem UA(d:Int)(l:List Held)(k:Nat):(ox d l k).length=l.length:=by
 unfold ox;rw[List.length_append,List.length_map,<-List.length_append,List.take_append_drop]
theorem Ml{d:Int}{l:List Held}{k:Nat}{x:Held}(hx:l[k]?=some x):(ox d l k)[k]?=some x:=by
 have hl:=(cQ.1 hx).1;unfold ox;rw[oQ (by simp;omega),List.length_map,List.length_take,Nat.min_eq_left (by omega),Nat.sub_self,List.getElem?_drop,Nat.add_zero];exact hx
theorem UB{d:Int}{l:List Held}{k:Nat}{x:Held}(hx:l[k]?=some x):(ox d l k).set k { x with spans:=gN x d } = ox d l (k+1):=by
 obtain⟨hl,he⟩:=cQ.1 hx;unfold ox;have hn:((l.take k).map λx:Held=>{ x with spans:=gN x d }).length=k:=by simp;omega
 rw[List.set_append_right _ _ (by omega),hn,Nat.sub_self,fQ hl,he,List.map_append,List.append_assoc];congr 1;rw[<-List.getElem_cons_drop hl,he];rfl
theorem Uz{h:Hist}{k:Nat}(hk:(pubAll h).length<=k):ox h.drift (pubAll h) k=jd h:=by
 unfold ox jd;rw[kQ hk,List.drop_of_length_le hk,List.append_nil]
end Np
section
open Go.RowKit Go.Shelf
attribute [local go_sem] Oper.semAt_some
theorem Np.JL:∀ (l:List Np.Span) (p:List Np.Span×Int),(l.foldl Np.fU p).1.length<=p.1.length+l.length
 | [],p=>by simp
 | s::l,p=>by
   rw[List.foldl_cons]
   have:=Np.JL l (Np.fU p s)
   have h2:(Np.fU p s).1.length<=p.1.length+1:=by unfold Np.fU;dsimp only;split <;> simp
   simp only[List.length_cons];omega
theorem alK(v:Value)(l:List Np.Span)(bw:l.length<=20000)(w:World)(h:SlR bA 2 w w.heap.size v l) :
 Calls prog 157 #[v] w (λe w'=>∃ v',e = .returned v'/\aw w.heap.size w' v' (Np.iY l)/\Below w.heap.size w w'):=by
 have HD:=jq h;obtain⟨A,c,rfl,be,bC⟩:=aj h;clear h;go_enter func157,ntmps157;go_wp2_with fail;go_loopw [3,4,5] (λvo va i wr=>∃ (k:Nat) (oo:List Np.Span) (t:Int),k<=l.length/\i = .int .i64 k/\va = .int .i64 t/\Hid (Below w.heap.size w wr)/\Hid (aw w.heap.size wr vo oo)/\Hid ((l.take k).foldl Np.fU ([],0)=(oo,t))) (λ_ _ i _=>l.length - (intOf i).toNat)
 case atStart=>exact⟨0,[],0,jQ _,rfl,rfl,jq (vQ _ _),jq (aw.nil _ _),jq rfl⟩
 case round=>
  obtain⟨k,oo,t,hk,rfl,rfl,HB,HO,HF⟩:=hrel;have al:=HB.out.size;have fJ:Hid (oo.length<=k):=jq (by have:=Np.JL (l.take k) ([],0);rw[HF.out] at this;simp at this;omega);by_cases aa:k<l.length
  ·obtain⟨x,ab⟩:∃ x,l[k]?=some x:=⟨_,aQ aa⟩;have ci:=HD.out.keep bE HB.out;obtain⟨b,o,rfl⟩:=nS ci aa;obtain⟨bB,hat⟩:=ma ci ab;clear ci;have h0:=hat.c0;have h1:=hat.c1;have HT:Hid ((l.take (k+1)).foldl Np.fU ([],0)=Np.fU (oo,t) x):=jq (by
    obtain⟨hl,he⟩:=cQ.1 ab;rw[fQ hl,he,List.foldl_append,HF.out];rfl)
   have bR:b<wr.heap.size:=by omega
   obtain⟨xf,xu⟩:=x;dsimp only at h0 h1;clear ab hat;by_cases gT:t<xf
   ·have hd:decide (t<xf)=true:=uQ gT;have iJ:Hid ((l.take (k+1)).foldl Np.fU ([],0)=(oo ++ [⟨t,xf⟩],xu)):=jq (by rw[HT.out];unfold Np.fU;dsimp only;rw[Qb gT]);clear gT;go_wp2_with (at_builtin;refine o4 _ rfl _ _ rfl w.heap.size _ oo rfl (HO.out.alloc _) wr.heap.size t xf (by simp[go_sem]) (by simp[go_sem]) (by simp[go_sem]) (by have:=fJ.out;omega) (by simp;omega) ?_;intro v5 w5 bS av;have aL:=((vQ w.heap.size wr).alloc al _).trans av;replace h1:=aIZ aL h1;replace h0:=aIZ aL h0;have kf:=aL.size;have H5:=jq (And.intro bS aL);clear bS av aL);go_roundw
    case rel=>exact⟨k+1,oo ++ [⟨t,xf⟩],xu,by omega,by go_num,rfl,jq (HB.out.trans H5.out.2),jq H5.out.1,iJ⟩
    case measure=>simp[intOf] <;> omega
   ·have hd:decide (t<xf)=false:=tQ gT;have iJ:Hid ((l.take (k+1)).foldl Np.fU ([],0)=(oo,xu)):=jq (by rw[HT.out];unfold Np.fU;dsimp only;rw[Qc gT]);clear gT;go_wp2_with fail;go_roundw
    case rel=>exact⟨k+1,oo,xu,by omega,by go_num,rfl,HB,HO,iJ⟩
    case measure=>simp[intOf] <;> omega
  ·have HE':Hid (l.foldl Np.fU ([],0)=(oo,t)):=jq (by have:=HF.out;rwa [kQ (by omega)] at this);by_cases gT:t<20000000
   ·have hd:decide (t<20000000)=true:=uQ gT;have HN:Hid (Np.iY l=oo ++ [⟨t,20000000⟩]):=jq (by unfold Np.iY;rw[HE'.out];dsimp only;rw[Qb gT]);clear gT;go_wp2_with (at_builtin;refine o4 _ rfl _ _ rfl w.heap.size _ oo rfl (HO.out.alloc _) wr.heap.size t 20000000 (by simp[go_sem]) (by simp[go_sem]) (by simp[go_sem]) (by have:=fJ.out;omega) (by simp;omega) ?_;intro v5 w5 bS av;have aL:=((vQ w.heap.size wr).alloc al _).trans av;have H5:=jq (And.intro bS aL);clear bS av aL);go_ret;exact⟨_,rfl,by rw[HN.out];exact H5.out.1,HB.out.trans H5.out.2⟩
   ·have hd:decide (t<20000000)=false:=tQ gT;have HN:Hid (Np.iY l=oo):=jq (by unfold Np.iY;rw[HE'.out];dsimp only;rw[Qc gT]);clear gT;go_wp2_with fail;go_ret;exact⟨_,rfl,by rw[HN.out];exact HO.out,HB.out⟩
theorem Zv(A:Option Addr)(n c:Nat)(hn:n<=1000000000)(w:World) :
 Calls prog 155 #[.slice A n c] w (λe w'=>e = .returned (.tuple (if 20000<n then #[.slice none 0 0,.int .i64 2] else #[.slice A n c,.int .i64 0]))/\w=w'):=by
 by_cases h:20000<n
 ·have hd:decide ((20000:Int)<(n:Int))=true:=aLQ;rw[Qb h];go_enter func155,ntmps155;go_wp2_with fail;go_ret2;exact⟨rfl,rfl⟩
 ·have hd:decide ((20000:Int)<(n:Int))=false:=aKX;rw[Qc h];go_enter func155,ntmps155;go_wp2_with fail;go_ret2;exact⟨rfl,rfl⟩
end
namespace Np
structure Ent22 where
 signed:Signed
 zone:List UInt8
 til:Int
deriving DecidableEq
noncomputable def mv(h:Hist):Int×List Held:=if yes (VHist h) then (0,jd h) else (1,[])
theorem xW{h:Hist}(k:VHist h):mv h=(0,jd h):=by unfold mv;rw[cu k];rfl
theorem xV{h:Hist}(k:¬ VHist h):mv h=(1,[]):=by unfold mv;rw[aS k];rfl
def YS(a b:Ent22):Prop:=a.signed.set.name=b.signed.set.name/\a.signed.set.type=b.signed.set.type/\a.zone=b.zone
structure EntOk(e:Ent22):Prop where
 name:aG e.signed.set.name=true
 zone:aG e.zone=true
 wild:eF e.zone=false
 under:bq e.signed.set.name e.zone=true
 til:1<=e.til/\e.til<=20100001
 kind:(e.signed.set.data = []/\(1<=e.signed.set.type/\e.signed.set.type<=8)/\(0<=e.signed.set.life/\e.signed.set.life<=100000)/\e.signed.sigs = [])\/(e.signed.set.data≠[]/\dC e.signed.set=true/\gH e.zone e.signed.sigs)
structure VCache(l:List Ent22):Prop where
 few:l.length<=400
 each:∀ e∈l,EntOk e
 apart:l.Pairwise λa b=>¬ YS a b
theorem VCache.sub{l m:List Ent22}(h:VCache l)(hm:m.Sublist l):VCache m:=
 ⟨yQ hm.length_le h.few,λe he=>h.each e (hm.subset he),h.apart.sublist hm⟩
end Np
section
open Go.RowKit

end
section
open Go.RowKit Go.Shelf
attribute [local go_sem] Oper.semAt_some
def Np.kC(x:Np.Span)(o:List Np.Span)(y:Np.Span):List Np.Span:=if max x.frm y.frm<min x.til y.til then o ++ [⟨max x.frm y.frm,min x.til y.til⟩] else o
theorem Np.UR(x:Np.Span)(b o:List Np.Span):Np.jV x b o=b.foldl (Np.kC x) o:=rfl
theorem Np.G0(x:Np.Span):∀ (b o:List Np.Span),(b.foldl (Np.kC x) o).length<=o.length+b.length
 | [],o=>by simp
 | y::b,o=>by
   rw[List.foldl_cons]
   have:=Np.G0 x b (Np.kC x o y)
   have h2:(Np.kC x o y).length<=o.length+1:=by unfold Np.kC;split <;> simp
   simp only[List.length_cons];omega
theorem Np.Di(b:List Np.Span):∀ (a o:List Np.Span),(a.foldl (λo x=>Np.jV x b o) o).length<=o.length+a.length * b.length
 | [],o=>by simp
 | x::a,o=>by
   rw[List.foldl_cons];have h1:=Np.Di b a (Np.jV x b o);have h2:=Np.G0 x b o;rw[<-Np.UR] at h2;simp only[List.length_cons,Nat.succ_mul];omega
theorem ajZ(v v2:Value)(l m:List Np.Span)(bw:l.length<=20000)(h2:m.length<=4)(w:World)(h:SlR bA 2 w w.heap.size v l)(h':SlR bA 2 w w.heap.size v2 m) :
 Calls prog 156 #[v,v2] w (λe w'=>∃ v',e = .returned v'/\aw w.heap.size w' v' (Np.tj l m)/\Below w.heap.size w w'):=by
 have HD:=jq h;have HE:=jq h';obtain⟨A,c,rfl,be,bC⟩:=aj h;obtain⟨A2,c2,rfl,dV,dJ⟩:=aj h';have fI:Hid (∀ k o,(((l.take k).foldl (λo x=>Np.jV x m o) []).length<=90000)/\∀ x j,((m.take j).foldl (Np.kC x) ((l.take k).foldl (λo x=>Np.jV x m o) [])).length<=90000+(o:Nat)):=jq (λk o=>by
  have h1:=Np.Di m (l.take k) [];have h3:(l.take k).length * m.length<=20000 * 4:=Nat.mul_le_mul (by rw[List.length_take];omega) h2;simp only[List.length_nil] at h1;refine⟨by omega,λx j=>?_⟩;have h4:=Np.G0 x (m.take j) ((l.take k).foldl (λo x=>Np.jV x m o) []);rw[List.length_take] at h4;omega)
 clear h h';go_enter func156,ntmps156;go_wp2_with fail;go_loopw [5,6] (λvo i wr=>∃ (k:Nat),k<=l.length/\i = .int .i64 k/\Hid (Below w.heap.size w wr)/\Hid (aw w.heap.size wr vo ((l.take k).foldl (λo x=>Np.jV x m o) []))) (λ_ i _=>l.length - (intOf i).toNat)
 case atStart=>exact⟨0,jQ _,rfl,jq (vQ _ _),jq (aw.nil _ _)⟩
 case round=>
  obtain⟨k,hk,rfl,HB,HO⟩:=hrel;by_cases aa:k<l.length
  ·obtain⟨x,ab⟩:∃ x,l[k]?=some x:=⟨_,aQ aa⟩;have mW:=jq ab;obtain⟨b,o,rfl⟩:=nS HD.out aa;obtain⟨ok,kb⟩:=aJZ ((l.take k).foldl (λo x=>Np.jV x m o) []);have HT:Hid ((l.take (k+1)).foldl (λo x=>Np.jV x m o) []=m.foldl (Np.kC x) ok):=jq (by
    obtain⟨hl,he⟩:=cQ.1 ab;rw[fQ hl,he,List.foldl_append,kb];rfl)
   have ku:Hid (∀ j,((m.take j).foldl (Np.kC x) ok).length<=90000):=jq (λj=>by have:=(fI.out k 0).2 x j;rwa [kb] at this);rw[kb] at HO;clear ab kb;go_wp2_with fail;go_loopw [5,7] (λvo i wr=>∃ (j:Nat),j<=m.length/\i = .int .i64 j/\Hid (Below w.heap.size w wr)/\Hid (aw w.heap.size wr vo ((m.take j).foldl (Np.kC x) ok))) (λ_ i _=>m.length - (intOf i).toNat)
   case atStart=>exact⟨0,jQ _,rfl,HB,HO⟩
   case round=>
    obtain⟨j,hj,rfl,ah,db⟩:=hrel;have al:=ah.out.size;by_cases Ou:j<m.length
    ·obtain⟨y,bX⟩:∃ y,m[j]?=some y:=⟨_,aQ Ou⟩;obtain⟨b2,o2,rfl⟩:=nS HE.out Ou;obtain⟨bB,hat⟩:=ma (HD.out.keep bE ah.out) mW.out;obtain⟨Io,yh⟩:=ma (HE.out.keep bE ah.out) bX;have h0:=hat.c0;have h1:=hat.c1;have g0:=yh.c0;have g1:=yh.c1;have iJ:Hid ((m.take (j+1)).foldl (Np.kC x) ok=Np.kC x ((m.take j).foldl (Np.kC x) ok) y):=jq (by
      obtain⟨hl,he⟩:=cQ.1 bX;rw[fQ hl,he,List.foldl_append];rfl)
     have bR:b<wr.heap.size:=by omega
     have aNX:b2<wr.heap.size:=by omega
     have hlen:=ku.out j;obtain⟨oj,OH⟩:=aJZ ((m.take j).foldl (Np.kC x) ok);rw[OH] at db iJ hlen;have sS:=jq hlen;obtain⟨xf,xu⟩:=x;obtain⟨yf,yu⟩:=y;dsimp only at h0 h1 g0 g1;clear bX hat yh OH hlen;go_wp2_with fail;go_region;obtain⟨mx,hmx⟩:=aJZ (max xf yf);obtain⟨mn,vT⟩:=aJZ (min xu yu);have LR:Hid (Np.kC ⟨xf,xu⟩ oj ⟨yf,yu⟩=if mx<mn then oj ++ [⟨mx,mn⟩] else oj):=jq (by unfold Np.kC;dsimp only;rw[hmx,vT]);rw[hmx,vT];obtain⟨w3,ct⟩:=aJZ ((wr.alloc (.cells #[.int .i64 mx,.int .i64 mn] 110)).drew);have gV:w3.heap.size=wr.heap.size+1:=by rw[<-ct];simp
     have s0:w3.cell? ⟨wr.heap.size,0,none⟩=some (.int .i64 mx):=by rw[<-ct];simp[go_sem]
     have s1:w3.cell? ⟨wr.heap.size,1,none⟩=some (.int .i64 mn):=by rw[<-ct];simp[go_sem]
     have aB:Below wr.heap.size wr w3:=by rw[<-ct];exact ((vQ _ _).alloc (bQ _) _).drew
     have aA:Hid (Below w.heap.size w w3):=jq (ah.out.trans (aB.mono al));have iq:Hid (aw w.heap.size w3 _ oj):=jq (db.out.keep aB);rw[ct];clear ct aB hmx vT h0 h1 g0 g1;by_cases lT:mx<mn
     ·have hd:decide (mx<mn)=true:=uQ lT;have rq:Hid ((m.take (j+1)).foldl (Np.kC ⟨xf,xu⟩) ok=oj ++ [⟨mx,mn⟩]):=jq (by rw[iJ.out,LR.out,Qb lT]);clear lT;go_wp2_with (at_builtin;refine o4 _ rfl _ _ rfl w.heap.size _ oj rfl (iq.out.alloc _) w3.heap.size mx mn (by simp[go_sem]) (by simp[go_sem]) (by simp[go_sem]) (by have:=sS.out;omega) (by simp;omega) ?_;intro v5 w5 bS av;have aL:=((vQ w.heap.size w3).alloc (by omega) _).trans av;have H5:=jq (And.intro bS aL);clear bS av aL);go_roundw
      case rel=>exact⟨j+1,by omega,by go_num,jq (aA.out.trans H5.out.2),jq (by rw[rq.out];exact H5.out.1)⟩
      case measure=>simp[intOf] <;> omega
     ·have hd:decide (mx<mn)=false:=tQ lT;have rq:Hid ((m.take (j+1)).foldl (Np.kC ⟨xf,xu⟩) ok=oj):=jq (by rw[iJ.out,LR.out,Qc lT]);clear lT;go_wp2_with fail;go_roundw
      case rel=>exact⟨j+1,by omega,by go_num,aA,jq (by rw[rq.out];exact iq.out)⟩
      case measure=>simp[intOf] <;> omega
    ·have HE':Hid (m.take j=m):=jq (kQ (by omega));go_wp2_with fail;go_roundw
     case rel=>exact⟨k+1,by omega,by go_num,ah,jq (by rw[HT.out];have:=db.out;rwa [HE'.out] at this)⟩
     case measure=>simp[intOf] <;> omega
  ·have HE':Hid (l.take k=l):=jq (kQ (by omega));go_wp2_with fail;go_ret;exact⟨_,rfl,by have:=HO.out;rwa [HE'.out] at this,HB.out⟩
end
namespace Np

end Np
section
open Go.RowKit Go.Shelf
attribute [local go_sem] Oper.semAt_some
theorem Np.x9:∀ l:List Np.Span,(Np.aX l).length=2 * l.length
 | []=>rfl
 | s::l=>by
   have:=Np.x9 l
   show (s.frm::s.til::Np.aX l).length=_;simp only[List.length_cons];omega
theorem Np.VW(l:List Np.Span)(s:Np.Span):Np.aX (l ++ [s])=Np.aX l ++ [s.frm,s.til]:=by unfold Np.aX;rw[List.flatMap_append];rfl
theorem M7(v:Value)(l:List Np.Span)(bw:l.length<=20000)(w:World)(h:SlR bA 2 w w.heap.size v l) :
 Calls prog 240 #[v] w (λe w'=>∃ v',e = .returned v'/\ei w.heap.size w' v' (Np.aX l)/\Below w.heap.size w w'):=by
 have HD:=jq h;obtain⟨A,c,rfl,be,bC⟩:=aj h;clear h;go_enter func240,ntmps240;go_wp2_with fail;go_loopw [3,8] (λvo i wr=>∃ (k:Nat),k<=l.length/\i = .int .i64 k/\Hid (Below w.heap.size w wr)/\Hid (ei w.heap.size wr vo (Np.aX (l.take k)))) (λ_ i _=>l.length - (intOf i).toNat)
 case atStart=>exact⟨0,jQ _,rfl,jq (vQ _ _),jq (ei.nil _ _)⟩
 case round=>
  obtain⟨k,hk,rfl,HB,HO⟩:=hrel;have al:=HB.out.size;by_cases aa:k<l.length
  ·obtain⟨x,ab⟩:∃ x,l[k]?=some x:=⟨_,aQ aa⟩;have ci:=HD.out.keep bE HB.out;obtain⟨b,o,rfl⟩:=nS ci aa;obtain⟨bB,hat⟩:=ma ci ab;clear ci;have h0:=hat.c0;have h1:=hat.c1;have HT:Hid (Np.aX (l.take (k+1))=Np.aX (l.take k) ++ [x.frm,x.til]):=jq (by
    obtain⟨hl,he⟩:=cQ.1 ab;rw[fQ hl,he,Np.VW])
   have HL:Hid ((Np.aX (l.take k)).length<=100000):=jq (by rw[Np.x9,List.length_take];omega);have bR:b<wr.heap.size:=by omega
   obtain⟨xf,xu⟩:=x;dsimp only at h0 h1 HT;clear ab hat;go_wp2_with (at_builtin;refine aEZ _ rfl _ _ rfl w.heap.size _ (Np.aX (l.take k)) rfl ((HO.out.alloc _).alloc _) (wr.heap.size+1) xf xu (by simp[go_sem]) (by simp[go_sem]) (by simp[go_sem]) HL.out (by simp;omega) ?_;intro v5 w5 bS av;have H5:=jq (And.intro bS ((((vQ w.heap.size wr).alloc al _).alloc (by simp;omega) _).trans av));clear bS av);go_roundw
   case rel=>exact⟨k+1,by omega,by go_num,jq (HB.out.trans H5.out.2),jq (by rw[HT.out];exact H5.out.1)⟩
   case measure=>simp[intOf] <;> omega
  ·have HE':Hid (l.take k=l):=jq (kQ (by omega));go_wp2_with fail;go_ret;exact⟨_,rfl,by have:=HO.out;rwa [HE'.out] at this,HB.out⟩
end
section
open Go.RowKit Go.Shelf
attribute [local go_sem] Oper.semAt_some
def Np.par(n:Nat):Bool:=decide (n % 2=1)
theorem Np.wv(n:Nat):Np.par (n+1)=!Np.par n:=by
 unfold Np.par;rcases Nat.mod_two_eq_zero_or_one n with h | h <;> simp[Nat.add_mod,h]
theorem oR(i:Nat):(((i:Int) % 2 == 1))=Np.par i:=by
 unfold Np.par;rcases Nat.mod_two_eq_zero_or_one i with h | h
 ·have:(i:Int) % 2=0:=by omega
  rw[this,h];rfl
 ·have:(i:Int) % 2=1:=by omega
  rw[this,h];rfl
theorem qN(i:Nat):((((i:Int)+1).tmod 2 == 1))=!Np.par i:=by
 rw[<-Np.wv,<-oR,Int.tmod_eq_emod_of_nonneg (by omega)];norm_cast
theorem qP(i:Nat):((((i:Int)+1) % 2 == 1))=!Np.par i:=by
 rw[<-Np.wv,<-oR];norm_cast
theorem Np.xZ{l:List Int}{i:Nat}{x:Int}(h:l[i]?=some x):l.drop i=x::l.drop (i+1):=by
 obtain⟨h1,h2⟩:=cQ.1 h;rw[sQ h1,h2]
theorem Np.PL{fx fy:List Int}{i j:Nat}{x:Int}{p q:Bool}(hi:fx[i]?=some x)(hj:∀ y,fy[j]?=some y->x<y):Np.mrg (fx.drop i) (fy.drop j) p q=(x,!p,q)::Np.mrg (fx.drop (i+1)) (fy.drop j) (!p) q:=by
 rw[Np.xZ hi]
 cases hy:fy[j]? with
 | none=>rw[List.drop_eq_nil_of_le (List.getElem?_eq_none_iff.1 hy),Np.mrg]
 | some y=>rw[Np.xZ hy,Np.mrg,Qb (hj y hy)]
theorem Np.PM{fx fy:List Int}{i j:Nat}{y:Int}{p q:Bool}(hj:fy[j]?=some y)(hi:∀ x,fx[i]?=some x->y<x):Np.mrg (fx.drop i) (fy.drop j) p q=(y,p,!q)::Np.mrg (fx.drop i) (fy.drop (j+1)) p (!q):=by
 rw[Np.xZ hj]
 cases hx:fx[i]? with
 | none=>rw[List.drop_eq_nil_of_le (List.getElem?_eq_none_iff.1 hx),Np.mrg]
 | some x=>rw[Np.xZ hx,Np.mrg,Qc (by have:=hi x hx;omega),Qb (hi x hx)]
theorem Np.ZO{fx fy:List Int}{i j:Nat}{y:Int}{p q:Bool}(hi:fx[i]?=some y)(hj:fy[j]?=some y):Np.mrg (fx.drop i) (fy.drop j) p q=(y,!p,!q)::Np.mrg (fx.drop (i+1)) (fy.drop (j+1)) (!p) (!q):=by
 rw[Np.xZ hi,Np.xZ hj,Np.mrg,Qc (by omega),Qc (by omega)]
theorem Np.ZP{fx fy:List Int}{p q:Bool} : Np.mrg (fx.drop fx.length) (fy.drop fy.length) p q = []:=by rw[List.drop_length,List.drop_length,Np.mrg]
theorem VG:∀ args w,(callFunc 239 args).run prog w = .ok (.enter 239 args) w:=enters_of func239 (by kernel_rfl) rfl
theorem VD(v v2:Value)(A A2:Option Addr)(n c n2 c2:Nat)(hv:v = .slice A n c)(sj:v2 = .slice A2 n2 c2)(w:World) :
 Calls prog 165 #[v,v2] w λe w'=>e = .returned (.func (.func 239) #[] #[.pointer (some ⟨w.heap.size,0,none⟩),.pointer (some ⟨w.heap.size+1,0,none⟩)])/\w'=(w.alloc (.cells #[v] 55)).alloc (.cells #[v2] 55):=by
 subst hv sj;go_enter func165,ntmps165;go_wp2_with fail;go_ret;exact⟨rfl,rfl⟩
def RS(fx fy:List Int)(all:List (Int×Bool×Bool))(B:Nat)(vx vy:Value)(J:List (Int×Bool×Bool)->(Nat->Prop)->World->Prop)(S:Nat->Prop)(i j:Nat)(wr:World):Prop:=
 ∃ (pre:List (Int×Bool×Bool)) (S1:Nat->Prop),pre++Np.mrg (fx.drop i) (fy.drop j) (Np.par i) (Np.par j)=all/\J pre S1 wr/\(∀ k,S1 k->k<wr.heap.size)/\(∀ k,S1 k->S k\/B<=k)/\(∀ g,vx.ownBlock=some g->¬ S1 g)/\(∀ g,vy.ownBlock=some g->¬ S1 g)/\ei B wr vx fx/\ei B wr vy fy/\B<=wr.heap.size
theorem Np.Hc{l:List Np.Span}(h:Np.SpV l):∀ x∈Np.aX l,0<=x/\x<=20000000:=λx hx=>by
 obtain⟨s,hs,hx⟩:=List.mem_flatMap.1 hx;have h1:=h.lo s hs;have h2:=h.hi s hs;have h3:=h.ap.full s hs;rcases List.mem_cons.1 hx with rfl | hx
 ·omega
 ·rw[List.mem_singleton] at hx;omega
theorem VE(a b:List Np.Span)(ha:a.length<=20000)(hb:b.length<=20000)(nG:Np.SpV a)(ij:Np.SpV b)(X Y n c n2 c2:Nat)(Dr:Nat->Prop)(A A2:Option Addr)(w:World)(hX:Dr X)(Ii:Dr Y)(kX:w.cell? ⟨X,0,none⟩=some (.slice A n c))(kY:w.cell? ⟨Y,0,none⟩=some (.slice A2 n2 c2))
 (hp:∀ W,fL Dr w W->SlR bA 2 W W.heap.size (.slice A n c) a) (hq:∀ W,fL Dr w W->SlR bA 2 W W.heap.size (.slice A2 n2 c2) b) :
 C7 prog 239 (λy=>#[y,.pointer (some ⟨X,0,none⟩),.pointer (some ⟨Y,0,none⟩)]) (λe:Int×Bool×Bool=>#[.int .i64 e.1,.agg #[.bool e.2.1,.bool e.2.2]]) (Np.mrg (Np.aX a) (Np.aX b) false false) Dr w:=by
 intro l J Jx S W hW hJ DG hY hS hS' h0;have k1:=(hW.cell (p:=⟨X,0,none⟩) hX).trans kX;have k2:=(hW.cell (p:=⟨Y,0,none⟩) Ii).trans kY;have HW:=jq hW;have HP:=jq hp;have HQ:=jq hq;have HV:=jq (And.intro nG ij);have ml:=jq (And.intro ha hb);have zk:=jq (And.intro kX kY);have ja:=jq (And.intro hX Ii);clear hW hp hq nG ij kX kY ha hb hX Ii;refine callsIn_of_wp func239 rfl trivial ?_ rfl;simp only[ntmps239,List.size_toArray,List.length_cons,List.length_nil,Nat.reduceAdd,Nat.reduceSub,Array.replicate_succ,Array.replicate_zero,List.push_toArray,List.append_toArray,List.nil_append,List.cons_append];gi_upto_region 0 with fail
 gi_cut [4,5] from 9 (λvx vy wx=>Below W.heap.size W wx/\ei W.heap.size wx vx (Np.aX a)/\ei W.heap.size wx vy (Np.aX b))
 case first=>
  gi_region_with (refine⟨trivial,rfl,?_⟩;gi_at_call 240;first | (refine (callsIn_wide.2 (M7 _ b ml.out.2 _ (HQ.out _ Le.out))).mono ?_;rintro e w2 ⟨v2,rfl,fw,ac⟩;have db:=jq (And.intro (fw.weak am.out.size) (sT.out.keep ac));have ah:=jq (am.out.trans (ac.mono am.out.size));clear fw ac) | (refine (callsIn_wide.2 (M7 _ a ml.out.1 _ (HP.out W.drew HW.out))).mono ?_;rintro e w1 ⟨v1,rfl,pO,aq⟩;have am:=jq (show Below W.heap.size W w1 from ⟨aq.os,aq.tape,aq.output,aq.size,aq.block⟩);have sT:=jq (show ei W.heap.size w1 v1 (Np.aX a) from pO);have Le:=jq (HW.out.of_below am.out);have k2':=(Le.out.cell (p:=⟨Y,0,none⟩) ja.out.2).trans zk.out.2;clear pO aq))
  all_goals
   gi_wp2_with fail;gi_meet;exact⟨ah.out,db.out.2,db.out.1⟩
 case rest=>
  obtain⟨aq,lB,kN⟩:=hcut;have Nv:J [] S wc:=hJ _ _ _ _ h0 (ItStep.of_below aq);have Te:=jq Nv;have am:=jq aq;have uO:=jq lB;have Gs:=jq kN;obtain⟨Ax,cx,rfl⟩:=lB.form;obtain⟨Ay,cy,rfl⟩:=kN.form;obtain⟨nx,IX⟩:=aJZ ((Np.aX a).length);obtain⟨ny,nD⟩:=aJZ ((Np.aX b).length);rw[IX] at uO |-;rw[nD] at Gs |-;have dR:=jq (And.intro IX nD);clear Nv aq lB kN IX nD k1 k2 h0;gi_wp2_with fail;gi_loopw [6,7] (λvi vj wr=>∃ i j:Nat,vi = .int .i64 i/\vj = .int .i64 j/\i<=nx/\j<=ny/\Hid (RS (Np.aX a) (Np.aX b) (Np.mrg (Np.aX a) (Np.aX b) false false) W.heap.size (.slice Ax nx cx) (.slice Ay ny cy) J S i j wr)) (λvi vj _=>(nx - (intOf vi).toNat)+(ny - (intOf vj).toNat))
  case atStart=>
   refine⟨0,0,rfl,rfl,jQ _,jQ _,jq ⟨[],S,rfl,Te.out,λk e=>lQ (hS' k e) am.out.size,λ_ e=>.inl e,λg hg e=>?_,λg hg e=>?_,uO.out,Gs.out,am.out.size⟩⟩
   ·have:=(uO.out.lt g hg).1;have:=hS' _ e;omega
   ·have:=(Gs.out.lt g hg).1;have:=hS' _ e;omega
  case round=>
   obtain⟨i,j,rfl,rfl,hi,hj,HR⟩:=hrel;obtain⟨pre,S1,aP,lR,cI,aV,dW,bX,lB,kN,al⟩:=HR.out;have nC:nx<=40000/\ny<=40000:=by have:=dR.out;have:=ml.out;rw[Np.x9,Np.x9] at *;omega
   obtain⟨aVQ,aVZ⟩:=nC;clear HR;by_cases hin:i<nx
   ·obtain⟨x,hx⟩:∃ x,(Np.aX a)[i]?=some x:=⟨_,aQ (by have:=dR.out.1;omega)⟩;have sr:=Np.Hc HV.out.1 x (gQ hx);obtain⟨gx,tt,aPZ,aPJ,cx0⟩:=lB.at hx;by_cases kK:j<ny
    ·obtain⟨y,sA⟩:∃ y,(Np.aX b)[j]?=some y:=⟨_,aQ (by have:=dR.out.2;omega)⟩;have YF:=Np.Hc HV.out.2 y (gQ sA);obtain⟨gy,Hp,Xm,Xn,cy0⟩:=kN.at sA;subst tt Hp;rcases Int.lt_trichotomy x y with bZ | bZ | bZ
     ·have hm:Np.mrg ((Np.aX a).drop i) ((Np.aX b).drop j) (Np.par i) (Np.par j)=(x,!Np.par i,Np.par j)::Np.mrg ((Np.aX a).drop (i+1)) ((Np.aX b).drop (j)) (Np.par (i+1)) (Np.par (j)):=by
       simp only[Np.wv];exact Np.PL hx (λy' h=>by rw[sA] at h;cases h;exact bZ)
      have bg:pre ++ [(x,!Np.par i,Np.par j)] <+: Np.mrg (Np.aX a) (Np.aX b) false false:=⟨_,by rw[<-aP,hm,List.append_assoc];rfl⟩;obtain⟨fn,tmps,assign,body,hy,oE⟩:=hY pre (x,!Np.par i,Np.par j) S1 wr bg lR cI al;dsimp only at hy;have oe:=jq bg;have HM:=jq hm;have HG:=jq (And.intro aP (And.intro aV (And.intro dW (And.intro bX (And.intro lB (And.intro kN al))))));clear aP lB kN lR hm bg dW bX cI aV;gi_wp2_with fail
      try rw[oR i]
      try rw[oR j]
      try rw[qN i]
      try rw[qN j]
      try rw[qP i]
      try rw[qP j]
      try rw[show min 20000000 (min x y)=x by omega]
      simp only[hy];refine⟨λh=>(by simp[Fence.wide] at h),oE.mono ?_⟩;rintro e W3 ⟨S3,aF,dz,dX,(⟨rfl,gR⟩ | ⟨rfl,gS⟩)⟩
      ·have fj:=jq (And.intro aF (And.intro dz (And.intro dX gR)));clear aF dz dX gR;gi_wp2_with fail;go_roundw
       case rel=>
        refine⟨i+1,j,by go_num,by go_num,by omega,by omega,jq ?_⟩;obtain⟨g1,g2,g3,g4,g5,g6,g7⟩:=HG.out;obtain⟨r1,r2,r3,r4⟩:=fj.out;refine⟨_,S3,?_,r4,r3,λk e=>(r2 k e).elim (g2 k) (λh=>.inr (yQ g7 h)),λg hg e=>(r2 g e).elim (g3 g hg) (λh=>by have:=(g5.lt g hg).2;omega),λg hg e=>(r2 g e).elim (g4 g hg) (λh=>by have:=(g6.lt g hg).2;omega),cX g5 (λg hg=>r1.keep g (g5.lt g hg).2 (g3 g hg)),cX g6 (λg hg=>r1.keep g (g6.lt g hg).2 (g4 g hg)),yQ g7 r1.size⟩;rw[<-g1,HM.out,List.append_assoc];rfl
       case measure=>simp[intOf] <;> omega
      ·have fj:=jq (And.intro dz gS);clear aF dz dX gS;gi_wp2_with fail;refine bodyPost_ret (results_none rfl _ _ _) rfl ?_;refine⟨⟨_,rfl⟩,.inr ⟨_,S3,oe.out,fj.out.2,λk e=>?_⟩⟩;obtain⟨g1,g2,g3,g4,g5,g6,g7⟩:=HG.out;exact (fj.out.1 k e).elim (g2 k) (λh=>.inr (yQ g7 h))
     ·have hm:Np.mrg ((Np.aX a).drop i) ((Np.aX b).drop j) (Np.par i) (Np.par j)=(y,!Np.par i,!Np.par j)::Np.mrg ((Np.aX a).drop (i+1)) ((Np.aX b).drop (j+1)) (Np.par (i+1)) (Np.par (j+1)):=by
       simp only[Np.wv];exact Np.ZO (by rw[hx,bZ]) sA
      have bg:pre ++ [(y,!Np.par i,!Np.par j)] <+: Np.mrg (Np.aX a) (Np.aX b) false false:=⟨_,by rw[<-aP,hm,List.append_assoc];rfl⟩;obtain⟨fn,tmps,assign,body,hy,oE⟩:=hY pre (y,!Np.par i,!Np.par j) S1 wr bg lR cI al;dsimp only at hy;have oe:=jq bg;have HM:=jq hm;have HG:=jq (And.intro aP (And.intro aV (And.intro dW (And.intro bX (And.intro lB (And.intro kN al))))));clear aP lB kN lR hm bg dW bX cI aV;gi_wp2_with fail
      try rw[oR i]
      try rw[oR j]
      try rw[qN i]
      try rw[qN j]
      try rw[qP i]
      try rw[qP j]
      try rw[show min 20000000 (min x y)=y by omega]
      try rw[show min 20000000 y=y by omega]
      simp only[hy];refine⟨λh=>(by simp[Fence.wide] at h),oE.mono ?_⟩;rintro e W3 ⟨S3,aF,dz,dX,(⟨rfl,gR⟩ | ⟨rfl,gS⟩)⟩
      ·have fj:=jq (And.intro aF (And.intro dz (And.intro dX gR)));clear aF dz dX gR;gi_wp2_with fail;go_roundw
       case rel=>
        refine⟨i+1,j+1,by go_num,by go_num,by omega,by omega,jq ?_⟩;obtain⟨g1,g2,g3,g4,g5,g6,g7⟩:=HG.out;obtain⟨r1,r2,r3,r4⟩:=fj.out;refine⟨_,S3,?_,r4,r3,λk e=>(r2 k e).elim (g2 k) (λh=>.inr (yQ g7 h)),λg hg e=>(r2 g e).elim (g3 g hg) (λh=>by have:=(g5.lt g hg).2;omega),λg hg e=>(r2 g e).elim (g4 g hg) (λh=>by have:=(g6.lt g hg).2;omega),cX g5 (λg hg=>r1.keep g (g5.lt g hg).2 (g3 g hg)),cX g6 (λg hg=>r1.keep g (g6.lt g hg).2 (g4 g hg)),yQ g7 r1.size⟩;rw[<-g1,HM.out,List.append_assoc];rfl
       case measure=>simp[intOf] <;> omega
      ·have fj:=jq (And.intro dz gS);clear aF dz dX gS;gi_wp2_with fail;refine bodyPost_ret (results_none rfl _ _ _) rfl ?_;refine⟨⟨_,rfl⟩,.inr ⟨_,S3,oe.out,fj.out.2,λk e=>?_⟩⟩;obtain⟨g1,g2,g3,g4,g5,g6,g7⟩:=HG.out;exact (fj.out.1 k e).elim (g2 k) (λh=>.inr (yQ g7 h))
     ·have hm:Np.mrg ((Np.aX a).drop i) ((Np.aX b).drop j) (Np.par i) (Np.par j)=(y,Np.par i,!Np.par j)::Np.mrg ((Np.aX a).drop (i)) ((Np.aX b).drop (j+1)) (Np.par (i)) (Np.par (j+1)):=by
       simp only[Np.wv];exact Np.PM sA (λx' h=>by rw[hx] at h;cases h;exact bZ)
      have bg:pre ++ [(y,Np.par i,!Np.par j)] <+: Np.mrg (Np.aX a) (Np.aX b) false false:=⟨_,by rw[<-aP,hm,List.append_assoc];rfl⟩;obtain⟨fn,tmps,assign,body,hy,oE⟩:=hY pre (y,Np.par i,!Np.par j) S1 wr bg lR cI al;dsimp only at hy;have oe:=jq bg;have HM:=jq hm;have HG:=jq (And.intro aP (And.intro aV (And.intro dW (And.intro bX (And.intro lB (And.intro kN al))))));clear aP lB kN lR hm bg dW bX cI aV;gi_wp2_with fail
      try rw[oR i]
      try rw[oR j]
      try rw[qN i]
      try rw[qN j]
      try rw[qP i]
      try rw[qP j]
      try rw[show min 20000000 (min x y)=y by omega]
      simp only[hy];refine⟨λh=>(by simp[Fence.wide] at h),oE.mono ?_⟩;rintro e W3 ⟨S3,aF,dz,dX,(⟨rfl,gR⟩ | ⟨rfl,gS⟩)⟩
      ·have fj:=jq (And.intro aF (And.intro dz (And.intro dX gR)));clear aF dz dX gR;gi_wp2_with fail;go_roundw
       case rel=>
        refine⟨i,j+1,by go_num,by go_num,by omega,by omega,jq ?_⟩;obtain⟨g1,g2,g3,g4,g5,g6,g7⟩:=HG.out;obtain⟨r1,r2,r3,r4⟩:=fj.out;refine⟨_,S3,?_,r4,r3,λk e=>(r2 k e).elim (g2 k) (λh=>.inr (yQ g7 h)),λg hg e=>(r2 g e).elim (g3 g hg) (λh=>by have:=(g5.lt g hg).2;omega),λg hg e=>(r2 g e).elim (g4 g hg) (λh=>by have:=(g6.lt g hg).2;omega),cX g5 (λg hg=>r1.keep g (g5.lt g hg).2 (g3 g hg)),cX g6 (λg hg=>r1.keep g (g6.lt g hg).2 (g4 g hg)),yQ g7 r1.size⟩;rw[<-g1,HM.out,List.append_assoc];rfl
       case measure=>simp[intOf] <;> omega
      ·have fj:=jq (And.intro dz gS);clear aF dz dX gS;gi_wp2_with fail;refine bodyPost_ret (results_none rfl _ _ _) rfl ?_;refine⟨⟨_,rfl⟩,.inr ⟨_,S3,oe.out,fj.out.2,λk e=>?_⟩⟩;obtain⟨g1,g2,g3,g4,g5,g6,g7⟩:=HG.out;exact (fj.out.1 k e).elim (g2 k) (λh=>.inr (yQ g7 h))
    ·subst tt;obtain rfl:j=ny:=by omega
     have hm:Np.mrg ((Np.aX a).drop i) ((Np.aX b).drop j) (Np.par i) (Np.par j)=(x,!Np.par i,Np.par j)::Np.mrg ((Np.aX a).drop (i+1)) ((Np.aX b).drop (j)) (Np.par (i+1)) (Np.par (j)):=by
      simp only[Np.wv];exact Np.PL hx (λy' h=>by have:=(cQ.1 h).1;have:=dR.out.2;omega)
     have bg:pre ++ [(x,!Np.par i,Np.par j)] <+: Np.mrg (Np.aX a) (Np.aX b) false false:=⟨_,by rw[<-aP,hm,List.append_assoc];rfl⟩;obtain⟨fn,tmps,assign,body,hy,oE⟩:=hY pre (x,!Np.par i,Np.par j) S1 wr bg lR cI al;dsimp only at hy;have oe:=jq bg;have HM:=jq hm;have HG:=jq (And.intro aP (And.intro aV (And.intro dW (And.intro bX (And.intro lB (And.intro kN al))))));clear aP lB kN lR hm bg dW bX cI aV;gi_wp2_with fail
     try rw[oR i]
     try rw[oR j]
     try rw[qN i]
     try rw[qN j]
     try rw[qP i]
     try rw[qP j]
     try rw[show min 20000000 x=x by omega]
     simp only[hy];refine⟨λh=>(by simp[Fence.wide] at h),oE.mono ?_⟩;rintro e W3 ⟨S3,aF,dz,dX,(⟨rfl,gR⟩ | ⟨rfl,gS⟩)⟩
     ·have fj:=jq (And.intro aF (And.intro dz (And.intro dX gR)));clear aF dz dX gR;gi_wp2_with fail;go_roundw
      case rel=>
       refine⟨i+1,j,by go_num,by go_num,by omega,by omega,jq ?_⟩;obtain⟨g1,g2,g3,g4,g5,g6,g7⟩:=HG.out;obtain⟨r1,r2,r3,r4⟩:=fj.out;refine⟨_,S3,?_,r4,r3,λk e=>(r2 k e).elim (g2 k) (λh=>.inr (yQ g7 h)),λg hg e=>(r2 g e).elim (g3 g hg) (λh=>by have:=(g5.lt g hg).2;omega),λg hg e=>(r2 g e).elim (g4 g hg) (λh=>by have:=(g6.lt g hg).2;omega),cX g5 (λg hg=>r1.keep g (g5.lt g hg).2 (g3 g hg)),cX g6 (λg hg=>r1.keep g (g6.lt g hg).2 (g4 g hg)),yQ g7 r1.size⟩;rw[<-g1,HM.out,List.append_assoc];rfl
      case measure=>simp[intOf] <;> omega
     ·have fj:=jq (And.intro dz gS);clear aF dz dX gS;gi_wp2_with fail;refine bodyPost_ret (results_none rfl _ _ _) rfl ?_;refine⟨⟨_,rfl⟩,.inr ⟨_,S3,oe.out,fj.out.2,λk e=>?_⟩⟩;obtain⟨g1,g2,g3,g4,g5,g6,g7⟩:=HG.out;exact (fj.out.1 k e).elim (g2 k) (λh=>.inr (yQ g7 h))
   ·by_cases kK:j<ny
    ·obtain⟨y,sA⟩:∃ y,(Np.aX b)[j]?=some y:=⟨_,aQ (by have:=dR.out.2;omega)⟩;have YF:=Np.Hc HV.out.2 y (gQ sA);obtain⟨gy,Hp,Xm,Xn,cy0⟩:=kN.at sA;subst Hp;obtain rfl:i=nx:=by omega
     have hm:Np.mrg ((Np.aX a).drop i) ((Np.aX b).drop j) (Np.par i) (Np.par j)=(y,Np.par i,!Np.par j)::Np.mrg ((Np.aX a).drop (i)) ((Np.aX b).drop (j+1)) (Np.par (i)) (Np.par (j+1)):=by
      simp only[Np.wv];exact Np.PM sA (λx' h=>by have:=(cQ.1 h).1;have:=dR.out.1;omega)
     have bg:pre ++ [(y,Np.par i,!Np.par j)] <+: Np.mrg (Np.aX a) (Np.aX b) false false:=⟨_,by rw[<-aP,hm,List.append_assoc];rfl⟩;obtain⟨fn,tmps,assign,body,hy,oE⟩:=hY pre (y,Np.par i,!Np.par j) S1 wr bg lR cI al;dsimp only at hy;have oe:=jq bg;have HM:=jq hm;have HG:=jq (And.intro aP (And.intro aV (And.intro dW (And.intro bX (And.intro lB (And.intro kN al))))));clear aP lB kN lR hm bg dW bX cI aV;gi_wp2_with fail
     try rw[oR i]
     try rw[oR j]
     try rw[qN i]
     try rw[qN j]
     try rw[qP i]
     try rw[qP j]
     try rw[show min 20000000 y=y by omega]
     simp only[hy];refine⟨λh=>(by simp[Fence.wide] at h),oE.mono ?_⟩;rintro e W3 ⟨S3,aF,dz,dX,(⟨rfl,gR⟩ | ⟨rfl,gS⟩)⟩
     ·have fj:=jq (And.intro aF (And.intro dz (And.intro dX gR)));clear aF dz dX gR;gi_wp2_with fail;go_roundw
      case rel=>
       refine⟨i,j+1,by go_num,by go_num,by omega,by omega,jq ?_⟩;obtain⟨g1,g2,g3,g4,g5,g6,g7⟩:=HG.out;obtain⟨r1,r2,r3,r4⟩:=fj.out;refine⟨_,S3,?_,r4,r3,λk e=>(r2 k e).elim (g2 k) (λh=>.inr (yQ g7 h)),λg hg e=>(r2 g e).elim (g3 g hg) (λh=>by have:=(g5.lt g hg).2;omega),λg hg e=>(r2 g e).elim (g4 g hg) (λh=>by have:=(g6.lt g hg).2;omega),cX g5 (λg hg=>r1.keep g (g5.lt g hg).2 (g3 g hg)),cX g6 (λg hg=>r1.keep g (g6.lt g hg).2 (g4 g hg)),yQ g7 r1.size⟩;rw[<-g1,HM.out,List.append_assoc];rfl
      case measure=>simp[intOf] <;> omega
     ·have fj:=jq (And.intro dz gS);clear aF dz dX gS;gi_wp2_with fail;refine bodyPost_ret (results_none rfl _ _ _) rfl ?_;refine⟨⟨_,rfl⟩,.inr ⟨_,S3,oe.out,fj.out.2,λk e=>?_⟩⟩;obtain⟨g1,g2,g3,g4,g5,g6,g7⟩:=HG.out;exact (fj.out.1 k e).elim (g2 k) (λh=>.inr (yQ g7 h))
    ·obtain rfl:i=nx:=by omega
     obtain rfl:j=ny:=by omega
     have HG:=jq (And.intro aP (And.intro lR aV));clear aP lB kN lR dW bX cI aV;gi_wp2_with fail;go_end0;refine⟨⟨_,rfl⟩,.inl ⟨S1,?_,λk e=>(HG.out.2.2 k e)⟩⟩;have h1:=HG.out.1;rw[<-dR.out.1,<-dR.out.2,Np.ZP,List.append_nil] at h1;rw[<-h1];exact HG.out.2.1
end
end Go.Proofs.YtfnopgdcaanaiaaGreatDoor
