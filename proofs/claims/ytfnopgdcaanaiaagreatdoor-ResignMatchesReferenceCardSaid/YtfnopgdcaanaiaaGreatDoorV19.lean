/- Parts of the proof. No condition. -/
import Derived.Test.YtfnopgdcaanaiaaGreatDoorV08
import Derived.Test.YtfnopgdcaanaiaaGreatDoorV11
import Derived.Test.YtfnopgdcaanaiaaGreatDoorV14
set_option linter.all false
set_option maxRecDepth 100000
set_option maxHeartbeats 8000000
namespace Go.Proofs.YtfnopgdcaanaiaaGreatDoor
open Go.Proofs.Tryz
section
open Go.RowKit
theorem UP{B:Nat}{M:Nat->Prop}{w:World}(hM:∀ k,M k->B<=k):Below B w (bn w M):=
 ⟨rfl,rfl,rfl,by rw[gW];exact bQ _,λk hk=>kk (λh=>by have:=hM k h;omega)⟩
theorem SlR.around{α:Type}{R:aPK α}{sz B:Nat}{w:World}{v:Value}{xs:List α}{M:Nat->Prop}(h:SlR R sz w B v xs)(hk:dH R)(hm:eh R)(hM:∀ k,M k->B<=k)(hB:B<=w.heap.size):SlR R sz (bn w M) w.heap.size v xs:=
 (h.keep hk (UP hM)).more hm hB
theorem bp.keep{α:Type}{R:aPK α}{sz:Nat}{e:TypeId}{base:Nat}{M:Nat->Prop}{w w':World}{v:Value}{xs:List α}(h:bp R sz e base M w v xs)(hk:dH R)(hs:iw R)(hm:eh R)(hb:Below w.heap.size w w'):bp R sz e base M w' v xs:=by
 refine h.leaves hk hs hm (Leaves'.of_below hb) (λg hg=>?_);obtain⟨rows,h1,h2,h3,h4⟩:=h;exact⟨hb.block g (h2.lt g hg).2,h3 g hg⟩
theorem bp.lt{α:Type}{R:aPK α}{sz:Nat}{e:TypeId}{base:Nat}{M:Nat->Prop}{w:World}{v:Value}{xs:List α}(h:bp R sz e base M w v xs):∀ g,v.ownBlock=some g->base<=g/\g<w.heap.size:=by
 obtain⟨rows,h1,h2,h3,h4⟩:=h;exact h2.lt
theorem bp.formN{α:Type}{R:aPK α}{sz:Nat}{e:TypeId}{base:Nat}{M:Nat->Prop}{w:World}{v:Value}{xs:List α}{n:Nat}(h:bp R sz e base M w v xs)(hn:xs.length=n):∃ A c,v = .slice A n c:=by
 subst hn;exact h.form
theorem bp.slr_sans{α:Type}{R:aPK α}{sz:Nat}{e:TypeId}{base:Nat}{M M':Nat->Prop}{w:World}{v:Value}{xs:List α}(hs:iw R)(hm:eh R)(h:bp R sz e base M w v xs)(hM:∀ k,M' k->M k/\v.ownBlock≠some k)(hl:xs.length<=140737488355328):SlR R sz (bn w M') w.heap.size v xs:=by
 obtain⟨rows,h1,h2,h3,h4⟩:=h;have h5:bI R sz e base w.heap.size (bn w M') v xs:=⟨rows,h1,cX h2 (λg hg=>kk (λhm'=>(hM g hm').2 hg)),λi r x hr hx=>⟨(h4 i r x hr hx).1,hs _ _ _ _ _ _ (λk hk=>(hM k hk).1) (h4 i r x hr hx).2⟩⟩;have h6:=h5.slr hm (by rw[gW];exact bQ _) hl;rwa [gW] at h6
theorem Leaves'.slr{α:Type}{R:aPK α}{sz:Nat}(hk:dH R)(hs:iw R)(hm:eh R){M M':Nat->Prop}{w w':World}(h:Leaves' M w w' M'){v:Value}{xs:List α}(hr:SlR R sz (bn w M) w.heap.size v xs):SlR R sz (bn w' M') w'.heap.size v xs:=by
 have hb:Below w.heap.size (bn w M) (bn w' λk=>M k\/M' k):=by
  refine⟨h.os,h.tape,h.output,by rw[gW,gW];exact h.size,λk hk=>?_⟩;by_cases hm:M k
  ·rw[wJ hm,wJ (Or.inl hm)];have h1:k<w'.heap.size:=lQ hk h.size;simp[hk,h1]
  ·have hk':=h.keep k hk hm;rw[kk hm,kk (λe=>e.elim hm hk'.1)];exact hk'.2
 exact ((hr.keep hk hb).more hm h.size).sans hs (λ_ e=>.inr e)
def Ky{α:Type}(R:aPK α)(B n:Nat)(w:World)(e:List Value)(x:α):Prop:=∀ M:Nat->Prop,(∀ k,M k->B<=k/\k<n)->R (bn w M) w.heap.size e x
def gX{α:Type}(R:aPK α)(sz B n:Nat)(w:World)(v:Value)(xs:List α):Prop:=∀ M:Nat->Prop,(∀ k,M k->B<=k/\k<n)->SlR R sz (bn w M) w.heap.size v xs
theorem Ky.all{α:Type}{R:aPK α}{B n:Nat}{w:World}{e:List Value}{x:α}(h:Ky R B n w e x)(hs:iw R):R w w.heap.size e x:=hs.all (h (λ_=>False) (λ_ e=>e.elim))
theorem gX.all{α:Type}{R:aPK α}{sz B n:Nat}{w:World}{v:Value}{xs:List α}(h:gX R sz B n w v xs)(hs:iw R):SlR R sz w w.heap.size v xs:=(h (λ_=>False) (λ_ e=>e.elim)).all hs

def GS(W:World)(B:Nat)(e:List Value)(x:Np.WorldP):Prop:=∃ (hv zv:Value) (s:ByteArray) (dv dx:Value),e = [hv,zv,.string s,.int .i64 x.anchor.type,.int .i64 x.anchor.life,dv,dx]/\s.data.toList=x.anchor.name/\s.size<=140737488355328/\
 SlR lN 3 W B hv x.hosts/\SlR uZ 3 W B zv x.zones/\SlR cA 3 W B dv x.anchor.data/\SlR iM 1 W B dx x.hints
theorem arQ:dH GS:=λ_ _ _ _ _ ⟨hv,cv,s,dv,dx,h0,h1,h2,h3,h4,h5,h6⟩ hb=>⟨hv,cv,s,dv,dx,h0,h1,h2,h3.keep nR hb,h4.keep EX hb,h5.keep bD hb,h6.keep kj hb⟩
theorem arZ:eh GS:=λ_ _ _ _ _ ⟨hv,cv,s,dv,dx,h0,h1,h2,h3,h4,h5,h6⟩ hb=>⟨hv,cv,s,dv,dx,h0,h1,h2,h3.more wH hb,h4.more JX hb,h5.more bP hb,h6.more qT hb⟩
theorem E2{α:Type}(R:aPK α)(sz:Nat)(w:World)(B:Nat):SlR R sz w B (.slice none 0 0) []:=⟨none,0,rfl,by simp,by simp,λi x hx=>by simp at hx⟩
theorem UV(w:World)(l:List Value)(T:TypeId):gG (w.alloc (.cells l.toArray T)) w.heap.size 0 l:=λj v hj=>by
 have h:=heap_alloc_new w (.cells l.toArray T);unfold World.cell?;rw[h,Nat.zero_add];simpa using hj
theorem gG.off{w:World}{b o:Nat}{e:List Value}(h:gG w b o e){M:Nat->Prop}(hM:¬ M b):gG (bn w M) b o e:=λj v hj=>(iQ (a:=⟨b,o+j,none⟩) (kk hM)).trans (h j v hj)
theorem UJ{α:Type}{R:aPK α}{sz:Nat}{p:Nat->Prop}{w w':World}{v:Value}{xs:List α}(h:∀ M:Nat->Prop,(∀ k,M k->p k)->SlR R sz (bn w M) w.heap.size v xs)(hk:dH R)(hm:eh R)(hb:Below w.heap.size w w'){M:Nat->Prop}(hM:∀ k,M k->p k\/w.heap.size<=k):SlR R sz (bn w' M) w'.heap.size v xs:=by
 have h1:=h (λk=>M k/\k<w.heap.size) (λk e=>(hM k e.1).resolve_right (by omega));refine (h1.keep hk ?_).more hm hb.size;refine⟨hb.os,hb.tape,hb.output,by rw[gW,gW];exact hb.size,λk hk=>?_⟩;by_cases hm:M k
 ·have h1:k<w'.heap.size:=lQ hk hb.size;rw[wJ hm,wJ (M:=λk=>M k/\k<w.heap.size) ⟨hm,hk⟩];simp[hk,h1]
 ·rw[kk hm,kk (M:=λk=>M k/\k<w.heap.size) (λe=>hm e.1)];exact hb.block k hk
theorem gX.later{α:Type}{R:aPK α}{sz n:Nat}{w w':World}{v:Value}{xs:List α}(h:gX R sz 0 n w v xs)(hk:dH R)(hm:eh R)(hb:Below w.heap.size w w'){M:Nat->Prop}(hM:∀ k,M k->k<n\/w.heap.size<=k):SlR R sz (bn w' M) w'.heap.size v xs:=
 UJ h hk hm hb (λk e=>(hM k e).imp (λe=>⟨jQ _,e⟩) id)
theorem gX.keep{α:Type}{R:aPK α}{sz n:Nat}{w w':World}{v:Value}{xs:List α}(h:gX R sz 0 n w v xs)(hk:dH R)(hm:eh R)(hb:Below w.heap.size w w'):gX R sz 0 n w' v xs:=λ_ hM=>h.later hk hm hb (λk e=>.inl (hM k e).2)
theorem gX.nil{α:Type}(R:aPK α)(sz n:Nat)(w:World):gX R sz 0 n w (.slice none 0 0) []:=λ_ _=>E2 _ _ _ _
theorem gX.form{α:Type}{R:aPK α}{sz n:Nat}{w:World}{v:Value}{xs:List α}(h:gX R sz 0 n w v xs):∃ A c,v = .slice A xs.length c:=by
 obtain⟨A,c,rfl,_⟩:=aj (h (λ_=>False) (λ_ e=>e.elim));exact⟨_,_,rfl⟩
theorem Dj{w w':World}{n:Nat}(l:List Value)(T:TypeId)(hn:w.heap.size=n)(he:w'=w.alloc (.cells l.toArray T)):gG w' n 0 l:=by subst hn;subst he;exact UV w l T
structure OneAt(n:Nat)(w:World)(b:Nat)(l:List Value):Prop where
 lo:n<=b
 hi:b<w.heap.size
 cells:gG w b 0 l
theorem OneAt.keep{n:Nat}{w w':World}{b:Nat}{l:List Value}(h:OneAt n w b l)(hb:Below w.heap.size w w'):OneAt n w' b l:=⟨h.lo,lQ h.hi hb.size,h.cells.keep hb h.hi⟩
def wW(w:World)(X:Nat)(L:List Value):Prop:=∀ i v,L[i]?=some v->w.cell? ⟨X,i,none⟩=some v
theorem wW.keep{w w':World}{X B:Nat}{L:List Value}(h:wW w X L)(hb:Below B w w')(hX:X<B):wW w' X L:=λi v hi=>(hb.cell (p:=⟨X,i,none⟩) hX).trans (h i v hi)
theorem lP{w w':World}{X:Nat}(l:List Value)(T:TypeId)(hn:w.heap.size=X)(he:w.alloc (.cells l.toArray T)=w'):wW w' X l:=λi v hi=>by
 have:=Dj l T hn he.symm i v hi
 rwa [Nat.zero_add] at this
end
section
open Go.RowKit Go.Shelf
attribute [local go_sem] Oper.semAt_some
theorem atJ{α:Type}{R:aPK α}{sz:Nat}{w:World}{B:Nat}{v:Value}{xs:List α}(h:SlR R sz w B v xs):∃ A c,v = .slice A xs.length c/\xs.length<=c/\xs.length<=140737488355328:=by
 obtain⟨A,c,h1,h2,h3,_⟩:=h;exact⟨A,c,h1,h2,h3⟩
theorem kl{α:Type}{R:aPK α}{sz:Nat}{w:World}{B:Nat}{v:Value}{xs:List α}(h:SlR R sz w B v xs):∃ A n c,v = .slice A n c/\xs.length=n/\n<=c/\n<=140737488355328:=by
 obtain⟨A,c,h1,h2,h3⟩:=atJ h;exact⟨A,_,c,h1,rfl,h2,h3⟩
def Np.zS(g x:Np.Sig):Prop:=x.frm=g.frm/\x.til=g.til/\0<=x.frm/\x.frm<=x.til/\x.til<=20000000
theorem Np.P5{gs:List Np.Sig}(h:∀ g:Np.Sig,gs[0]?=some g->∀ (i:Nat) (x:Np.Sig),gs[i]?=some x->Np.zS g x):Np.l6 gs=true:=by
 cases gs with
 | nil=>rfl
 | cons g r=>
  obtain⟨_,_,h3,h4,h5⟩:=h g rfl 0 g rfl;have h6:(g::r).any (Np.wI g)=false:=by
   rw[List.any_eq_false];intro x hx;obtain⟨i,hi⟩:=List.mem_iff_getElem?.1 hx;obtain⟨e1,e2,_⟩:=h g rfl i x hi;simp[Np.wI,e1,e2]
  rw[show Np.l6 (g::r)=(!(decide (g.frm<0)||decide (g.til<g.frm)||decide (20000000<g.til))&&!((g::r).any (Np.wI g))) from rfl,h6,tQ (by omega:¬ g.frm<0),tQ (by omega:¬ g.til<g.frm),tQ (by omega:¬ 20000000<g.til)];rfl
theorem Np.P4{gs:List Np.Sig}{g x:Np.Sig}{i:Nat}(hg:gs[0]?=some g)(hx:gs[i]?=some x)(h:¬ Np.zS g x):Np.l6 gs=false:=by
 cases gs with
 | nil=>cases hg
 | cons g' r=>
  cases hg
  cases hq:Np.l6 (g::r) with
  | false=>rfl
  | true=>
   exfalso;unfold Np.l6 at hq;simp only[Bool.and_eq_true,Bool.not_eq_true',Bool.or_eq_false_iff,decide_eq_false_iff_not] at hq;obtain⟨⟨⟨h1,h2⟩,h3⟩,h4⟩:=hq;have h5:=List.any_eq_false.1 h4 x (gQ hx);simp only[Np.wI,Bool.or_eq_true,bne_iff_ne,ne_eq,not_or,Decidable.not_not] at h5;exact h ⟨h5.1,h5.2,by omega,by omega,by omega⟩
theorem J0{w:World}{B n c:Nat}{A:Option Addr}{xs:List Np.Sig}(h:SlR de 6 w B (.slice A n c) xs){k:Nat}{x:Np.Sig}(hx:xs[k]?=some x):∃ (b o:Nat) (z:ByteArray),A=some ⟨b,o,none⟩/\b<B/\
 w.cell? ⟨b,o+k * 6,none⟩=some (.string z)/\w.cell? ⟨b,o+k * 6+1,none⟩=some (.int .i64 x.key)/\w.cell? ⟨b,o+k * 6+2,none⟩=some (.int .i64 x.alg)/\w.cell? ⟨b,o+k * 6+3,none⟩=some (.int .i64 x.frm)/\w.cell? ⟨b,o+k * 6+4,none⟩=some (.int .i64 x.til)/\w.cell? ⟨b,o+k * 6+5,none⟩=some (.int .u64 x.sum):=by
 obtain⟨A',c',h1,_,_,he⟩:=h;obtain⟨b,o,e,rfl,hb,_,hce,z,_,_,rfl⟩:=he k x hx;simp only[Value.slice.injEq] at h1;obtain⟨rfl,_⟩:=h1;exact⟨b,o,z,rfl,hb,hce 0 _ rfl,hce 1 _ rfl,hce 2 _ rfl,hce 3 _ rfl,hce 4 _ rfl,hce 5 _ rfl⟩
theorem amQ(s:ByteArray)(hs:s.size<=140737488355328)(ty life:Int)(v u:Value)(ds:List Np.Datum)(gs:List Np.Sig)(w:World)(hd:SlR cA 3 w w.heap.size v ds)(hg:SlR de 6 w w.heap.size u gs) :
 Calls prog 81 #[.agg #[.string s,.int .i64 ty,.int .i64 life,v,u]] w
  λe w'=>e = .returned (.bool (Np.plain ⟨⟨s.data.toList,ty,life,ds⟩,gs⟩))/\Below w.heap.size w w':=by
 have HD:=jq hd;have HG:=jq hg;obtain⟨A,n,c,rfl,_,_,_⟩:=kl hd;obtain⟨A2,m,c2,rfl,hm,OE,hmx⟩:=kl hg;obtain⟨X,hX⟩:=aJZ w.heap.size;obtain⟨w1,ai⟩:=aJZ (w.alloc (.cells #[.string s,.int .i64 ty,.int .i64 life,.slice A n c,.slice A2 m c2] 42));have ba:w1.heap.size=X+1:=by rw[<-ai,<-hX];simp
 have hb:Below w.heap.size w w1:=by rw[<-ai];exact (vQ _ _).alloc (bQ _) _
 have am:=jq hb;have aK:=jq (lP _ _ hX ai);have HM:=jq hm;obtain⟨pv,ii⟩:=aJZ (Np.plain ⟨⟨s.data.toList,ty,life,ds⟩,gs⟩);have mq:=jq ii;rw[ii];have k0:=aK.out 0 _ rfl;have k1:=aK.out 1 _ rfl;have k2:=aK.out 2 _ rfl;have k3:=aK.out 3 _ rfl;have k4:=aK.out 4 _ rfl;clear hb hd hg hm ii;go_enter func81,ntmps81;go_wp2_with fail;clear ai;go_loopw [3] (λi wr=>∃ k:Nat,k<=m/\i = .int .i64 k/\Hid (Below w1.heap.size w1 wr)/\Hid (∀ g:Np.Sig,gs[0]?=some g->∀ (j:Nat) (x:Np.Sig),j<k->gs[j]?=some x->Np.zS g x)) (λi _=>m - (intOf i).toNat)
 case atStart=>exact⟨0,jQ _,rfl,jq (vQ _ _),jq (λ_ _ j _ h=>by omega)⟩
 case round=>
  obtain⟨k,hk,rfl,HB,HP⟩:=hrel;have al:=HB.out.size;have dD:=jq (aK.out.keep HB.out (by omega));clear k0 k1 k2 k3 k4;have k0:=dD.out 0 _ rfl;have k1:=dD.out 1 _ rfl;have k2:=dD.out 2 _ rfl;have k3:=dD.out 3 _ rfl;have k4:=dD.out 4 _ rfl;by_cases aa:k<m
  ·obtain⟨g,lx⟩:∃ g,gs[0]?=some g:=⟨_,aQ (by have:=HM.out;omega)⟩;obtain⟨x,dW⟩:∃ x,gs[k]?=some x:=⟨_,aQ (by have:=HM.out;omega)⟩;have K3:=jq lx;have ju:=jq dW;have HS:=(HG.out.keep bH am.out).keep bH (HB.out.aKZ);obtain⟨b,o,z0,rfl,bJ,a0,a1,a2,a3,a4,a5⟩:=J0 HS lx;obtain⟨b',o',z1,hA,_,b0,b1,b2,b3,b4,b5⟩:=J0 HS dW;simp only[Option.some.injEq,Addr.mk.injEq,and_true] at hA;obtain⟨rfl,rfl⟩:=hA;have a3':wr.cell? ⟨b,o+3,none⟩=some (.int .i64 g.frm):=by simpa using a3
   have a4':wr.cell? ⟨b,o+4,none⟩=some (.int .i64 g.til):=by simpa using a4
   have bR:b<wr.heap.size:=by omega
   have NK:¬ b=wr.heap.size:=by omega
   have vv:¬ X=wr.heap.size:=by omega
   have aMK:X<wr.heap.size:=by omega
   have bF:(0:Int)<=(k:Int):=by omega
   have bL:(k:Int)<(m:Int):=by omega
   have gU:(0:Int)<(m:Int):=by omega
   obtain⟨gz,gk,ga,gf,gt,gsum⟩:=g;obtain⟨xz,xk,xa,xf,xt,xsum⟩:=x;dsimp only at a3' a4' b1 b2 b3 b4 b5;clear HS a0 a1 a2 a3 a4 a5 lx dW;by_cases hin:Np.zS ⟨gz,gk,ga,gf,gt,gsum⟩ ⟨xz,xk,xa,xf,xt,xsum⟩
   ·have jO:=jq hin;obtain⟨e1,e2,e3,e4,e5⟩:=hin;dsimp only at e1 e2 e3 e4 e5;have d1:(xf != gf)=false:=by simp[e1]
    have d2:(xt != gt)=false:=by simp[e2]
    have d3:decide (xf<0)=false:=aKX;have d4:decide (xt<xf)=false:=aKX;have d5:decide (20000000<xt)=false:=aKX;clear e1 e2 e3 e4 e5;go_wp2_with fail;go_quiet (fail);go_wp2_with fail;go_roundw
    case rel=>
     refine⟨k+1,by omega,by go_num,jq (below_drewN (HB.out.alloc HB.out.size _) _),jq (λg' hg' j x' hj hx'=>?_)⟩;rcases Nat.lt_succ_iff_lt_or_eq.1 hj with h | rfl
     ·exact HP.out g' hg' j x' h hx'
     ·have q1:=K3.out.symm.trans hg';have q2:=ju.out.symm.trans hx'
      cases q1;cases q2
      exact jO.out
    case measure=>simp[intOf] <;> omega
   ·have sJ:Hid (false=pv):=jq (by
     rw[<-mq.out];unfold Np.plain;rw[Np.P4 K3.out ju.out hin,Bool.and_false])
    have hcs:(xf != gf)=true\/((xf != gf)=false/\(xt != gt)=true)\/((xf != gf)=false/\(xt != gt)=false/\decide (xf<0)=true)\/((xf != gf)=false/\(xt != gt)=false/\decide (xf<0)=false/\decide (xt<xf)=true)\/((xf != gf)=false/\(xt != gt)=false/\decide (xf<0)=false/\decide (xt<xf)=false/\decide (20000000<xt)=true):=by
     simp only[bne_iff_ne,bne_eq_false_iff_eq,Qa,decide_eq_false_iff_not,ne_eq];unfold Np.zS at hin;dsimp only at hin;omega
    clear hin;go_wp2_with fail;rcases hcs with d1 | ⟨d1,d2⟩ | ⟨d1,d2,d3⟩ | ⟨d1,d2,d3,d4⟩ | ⟨d1,d2,d3,d4,d5⟩
    all_goals
     go_quiet (fail);go_wp2_with fail;go_ret;exact⟨ae sJ.out,am.out.trans ((below_drewN (HB.out.alloc HB.out.size _) _).aKZ)⟩
  ·have CO:Hid (Np.l6 gs=true):=jq (Np.P5 (λg hg j x hx=>HP.out g hg j x (by have:=(cQ.1 hx).1;have:=HM.out;omega) hx));go_wp2_with fail;refine (JV s hs ty life _ ds wr (((HD.out.keep bD am.out).keep bD (HB.out.aKZ)).more bP (by omega))).mono ?_;rintro e w2 ⟨rfl,ac⟩;have aN:=ac.size;have bl:=jq (dD.out.keep ac (by omega));have ra:=jq (am.out.trans ((HB.out.trans (ac.aKZ)).aKZ));clear k0 k1 k2 k3 k4 ac;have k0:=bl.out 0 _ rfl;have k1:=bl.out 1 _ rfl;have k2:=bl.out 2 _ rfl;have k3:=bl.out 3 _ rfl;have k4:=bl.out 4 _ rfl;have LH:Hid (pv=(Np.dC ⟨s.data.toList,ty,life,ds⟩&&decide (m<=6))):=jq (by rw[<-mq.out,<-HM.out];unfold Np.plain;rw[CO.out,Bool.and_true])
   cases hq:Np.dC ⟨s.data.toList,ty,life,ds⟩ with
   | false=>
    have HQ:=jq hq;clear hq;go_wp2_with fail;go_ret;exact⟨ae (by rw[LH.out,HQ.out,Bool.false_and]),ra.out⟩
   | true=>
    have HQ:=jq hq;clear hq;go_wp2_with fail;go_ret;exact⟨ae (by rw[LH.out,HQ.out,Bool.true_and];simp;omega),ra.out⟩
end
section
open Go.RowKit Go.Shelf
attribute [local go_sem] Oper.semAt_some
def Np.qZ(s:Np.Signed)(drift stop:Int):List Np.Span:=if Np.oX s drift stop<=Np.oW s drift then [] else [⟨Np.oW s drift,Np.oX s drift stop⟩]
theorem Np.E6{s:Np.Signed}{drift stop:Int}(h:Np.fW s drift stop=0):Np.fV s drift stop=Np.qZ s drift stop:=by unfold Np.fV;rw[Qb h];rfl
theorem atX(w:World)(a b:Int)(t:TypeId):SlR bA 2 (w.alloc (.cells #[.int .i64 a,.int .i64 b] t)) (w.alloc (.cells #[.int .i64 a,.int .i64 b] t)).heap.size (.slice (some ⟨w.heap.size,0,none⟩) 1 1) [⟨a,b⟩]:=by
 obtain⟨x,h1,h2,_⟩:=Hk (w:=w) (w1:=w) (l:=[⟨a,b⟩]) (err:=0) (t:=t) (vQ _ _) rfl rfl;simp only[Ending.returned.injEq,Value.tuple.injEq,Array.mk.injEq,List.cons.injEq,and_true] at h1;rw[h1];exact h2
def Np.Dd(gs:List Np.Sig):Prop:=∀ g,gs[0]?=some g->0<=g.frm/\g.frm<=g.til/\g.til<=20000000
theorem Np.JN{s:Np.Signed}(h:Np.plain s=true):Np.Dd s.sigs:=λg hg=>by
 have h1:Np.l6 s.sigs=true:=by simp only[Np.plain,Bool.and_eq_true] at h;exact h.2
 refine Decidable.byContradiction λhn=>?_;rw[Np.P4 hg hg (λhi=>hn ⟨hi.2.2.1,hi.2.2.2.1,hi.2.2.2.2⟩)] at h1
 cases h1
theorem RC(s:ByteArray)(ty life:Int)(v u:Value)(ds:List Np.Datum)(gs:List Np.Sig)(drift stop:Int)(hd:0<=drift/\drift<=1000)(az:1<=stop/\stop<=20000000)(Jo:Np.Dd gs)(w:World)(hv:SlR cA 3 w w.heap.size v ds)(hg:SlR de 6 w w.heap.size u gs) :
 Calls prog 82 #[.agg #[.string s,.int .i64 ty,.int .i64 life,v,u],.int .i64 drift,.int .i64 stop] w
  λe w'=>∃ v',e = .returned v'/\SlR bA 2 w' w'.heap.size v' (Np.qZ ⟨⟨s.data.toList,ty,life,ds⟩,gs⟩ drift stop)/\Below w.heap.size w w':=by
 have HG:=jq hg;obtain⟨A,n,c,rfl,_,_,_⟩:=kl hv;obtain⟨A2,m,c2,rfl,hm,OE,hmx⟩:=kl hg;obtain⟨eU,fS⟩:=hd;obtain⟨bh,cJ⟩:=az;obtain⟨X,hX⟩:=aJZ w.heap.size;obtain⟨w1,ai⟩:=aJZ (w.alloc (.cells #[.string s,.int .i64 ty,.int .i64 life,.slice A n c,.slice A2 m c2] 42));have ba:w1.heap.size=X+1:=by rw[<-ai,<-hX];simp
 have hb:Below w.heap.size w w1:=by rw[<-ai];exact (vQ _ _).alloc (bQ _) _
 have am:=jq (show Below X w w1 by rw[<-hX];exact hb);have sT:Hid (∀ (a b:Int) (t:TypeId),SlR bA 2 (w1.alloc (.cells #[.int .i64 a,.int .i64 b] t)) (w1.alloc (.cells #[.int .i64 a,.int .i64 b] t)).heap.size (.slice (some ⟨X+1,0,none⟩) 1 1) [⟨a,b⟩]):=jq (λa b t=>by rw[<-ba];exact atX w1 a b t);have aK:=jq (lP _ _ hX ai);have k0:=aK.out 0 _ rfl;have k1:=aK.out 1 _ rfl;have k2:=aK.out 2 _ rfl;have k3:=aK.out 3 _ rfl;have k4:=aK.out 4 _ rfl;obtain⟨r,hr⟩:=aJZ (Np.qZ ⟨⟨s.data.toList,ty,life,ds⟩,gs⟩ drift stop);rw[hr]
 cases gs with
 | nil=>
  have gU:m=0:=by rw[<-hm];rfl
  subst gU;have eC:r = [⟨0,stop⟩]:=by rw[<-hr];unfold Np.qZ Np.oX Np.oW;dsimp only;rw[Qc (by omega)]
  have HR:=jq eC;clear hb hv hg hm hr eC Jo;go_enter func82,ntmps82;go_wp2_with fail;go_ret;refine⟨_,rfl,?_,?_⟩
  ·rw[HR.out];exact sT.out _ _ _
  ·rw[hX];exact am.out.alloc (by omega) _
 | cons g gr=>
  obtain⟨oI,pE,pF⟩:=Jo g rfl;obtain⟨b,o,z0,rfl,bJ,a0,a1,a2,a3,a4,a5⟩:=J0 (HG.out.keep bH hb) (k:=0) (x:=g) rfl;have a3':w1.cell? ⟨b,o+3,none⟩=some (.int .i64 g.frm):=by simpa using a3
  have a4':w1.cell? ⟨b,o+4,none⟩=some (.int .i64 g.til):=by simpa using a4
  have yq:(0:Int)<(m:Int):=by have:m=gr.length+1:=(by rw[<-hm];rfl);omega
  have yl:decide ((0:Int)<(m:Int))=true:=uQ yq;have hf:Np.oW ⟨⟨s.data.toList,ty,life,ds⟩,g::gr⟩ drift=g.frm+drift:=rfl;have ht:Np.oX ⟨⟨s.data.toList,ty,life,ds⟩,g::gr⟩ drift stop=min stop (g.til - drift+1):=rfl;have HR:Hid (r=if min stop (g.til - drift+1)<=g.frm+drift then [] else [⟨g.frm+drift,min stop (g.til - drift+1)⟩]):=jq (by rw[<-hr];unfold Np.qZ;rw[hf,ht]);obtain⟨gz,gk,ga,gf,gt,gsum⟩:=g;dsimp only at a3' a4' oI pE pF HR;clear hb hv hg hm hr Jo hf ht a0 a1 a2 a3 a4 a5 HG;by_cases vT:gt - drift+1<stop
  all_goals
   go_enter func82,ntmps82;go_wp2_with fail
   ·go_ret;refine⟨_,rfl,?_,?_⟩
    ·rw[HR.out,Qb (by omega)];exact J2 _ _
    ·first
      | exact am.out
      | (rw[hX];exact am.out)
   ·go_ret;refine⟨_,rfl,?_,?_⟩
    ·rw[HR.out,Qc (by omega)]
     first
      | (rw[show min stop (gt - drift+1)=gt - drift+1 by omega];exact sT.out _ _ _)
      | (rw[show min stop (gt - drift+1)=stop by omega];exact sT.out _ _ _)
      | exact sT.out _ _ _
    ·first
      | exact am.out.alloc (by omega) _
      | (rw[hX];exact am.out.alloc (by omega) _)
theorem anQ(s:ByteArray)(hs:s.size<=140737488355328)(ty life:Int)(v u:Value)(ds:List Np.Datum)(gs:List Np.Sig)(drift stop:Int)(w:World)(hd:SlR cA 3 w w.heap.size v ds)(hg:SlR de 6 w w.heap.size u gs) :
 Calls prog 38 #[.agg #[.string s,.int .i64 ty,.int .i64 life,v,u],.int .i64 drift,.int .i64 stop] w
  (xe bA 2 w (Np.fV ⟨⟨s.data.toList,ty,life,ds⟩,gs⟩ drift stop) (Np.fW ⟨⟨s.data.toList,ty,life,ds⟩,gs⟩ drift stop)):=by
 have HD:=jq hd;have HG:=jq hg;obtain⟨A,n,c,rfl,_,_,_⟩:=kl hd;obtain⟨A2,m,c2,rfl,hm,OE,hmx⟩:=kl hg;obtain⟨X,hX⟩:=aJZ w.heap.size;obtain⟨w1,ai⟩:=aJZ (w.alloc (.cells #[.string s,.int .i64 ty,.int .i64 life,.slice A n c,.slice A2 m c2] 42));have ba:w1.heap.size=X+1:=by rw[<-ai,<-hX];simp
 have hb:Below w.heap.size w w1:=by rw[<-ai];exact (vQ _ _).alloc (bQ _) _
 have am:=jq hb;have aK:=jq (lP _ _ hX ai);have k0:=aK.out 0 _ rfl;have k1:=aK.out 1 _ rfl;have k2:=aK.out 2 _ rfl;have k3:=aK.out 3 _ rfl;have k4:=aK.out 4 _ rfl;obtain⟨S,hS⟩:∃ S:Np.Signed,(⟨⟨s.data.toList,ty,life,ds⟩,gs⟩:Np.Signed)=S:=⟨_,rfl⟩;have HS:=jq hS;rw[hS];clear hb hd hg hS;go_enter func38,ntmps38;go_wp2_with fail;clear ai;refine (amQ s hs ty life _ _ ds gs w1 ((HD.out.keep bD am.out).more bP am.out.size) ((HG.out.keep bH am.out).more cE am.out.size)).mono ?_;rw[HS.out];rintro e w2 ⟨rfl,ac⟩;have aN:=ac.size;have bl:=jq (aK.out.keep ac (by omega));have ah:=aIX am ac;clear k0 k1 k2 k3 k4 ac;have k0:=bl.out 0 _ rfl;have k1:=bl.out 1 _ rfl;have k2:=bl.out 2 _ rfl;have k3:=bl.out 3 _ rfl;have k4:=bl.out 4 _ rfl;by_cases Bj:0<=drift/\drift<=1000/\1<=stop/\stop<=20000000/\Np.plain S=true
 ·obtain⟨eU,fS,bh,cJ,hp⟩:=Bj;have HE:Hid (Np.fW S drift stop=0):=jq (by unfold Np.fW;rw[Qb ⟨eU,fS,bh,cJ,hp⟩]);have GK:Hid (Np.Dd gs):=jq (by have:=Np.JN hp;rw[<-HS.out] at this;exact this);have d1:decide (drift<0)=false:=aKX;have d2:decide (1000<drift)=false:=aKX;have d3:decide (stop<1)=false:=aKX;have d4:decide (20000000<stop)=false:=aKX;go_wp2_with fail;refine (RC s ty life _ _ ds gs drift stop ⟨eU,fS⟩ ⟨bh,cJ⟩ GK.out w2 ((HD.out.keep bD ah.out).more bP ah.out.size) ((HG.out.keep bH ah.out).more cE ah.out.size)).mono ?_;rw[HS.out];rintro e w3 ⟨v',rfl,dy,ak⟩;have H3:=jq (And.intro dy (ah.out.trans (ak.mono ah.out.size)));clear dy ak;go_wp2_with fail;go_ret2;refine⟨v',?_,?_,H3.out.2⟩
  ·rw[HE.out];rfl
  ·rw[Np.E6 HE.out];exact H3.out.1
 ·have HE:Hid (Np.fW S drift stop=1):=jq (by unfold Np.fW;rw[Qc Bj]);have HN:Hid (Np.fV S drift stop = []):=jq (by unfold Np.fV;rw[Qc (by rw[HE.out];omega)]);have hcs:Np.plain S=false\/(Np.plain S=true/\decide (drift<0)=true)\/(Np.plain S=true/\decide (drift<0)=false/\decide (1000<drift)=true)\/(Np.plain S=true/\decide (drift<0)=false/\decide (1000<drift)=false/\decide (stop<1)=true)\/(Np.plain S=true/\decide (drift<0)=false/\decide (1000<drift)=false/\decide (stop<1)=false/\decide (20000000<stop)=true):=by
   cases hp:Np.plain S with
   | false=>exact .inl rfl
   | true=>
    rw[hp] at Bj;simp only[Qa,decide_eq_false_iff_not,reduceCtorEq,false_or,true_and,and_true] at Bj |-;omega
  clear Bj;rcases hcs with d1 | ⟨d1,d2⟩ | ⟨d1,d2,d3⟩ | ⟨d1,d2,d3,d4⟩ | ⟨d1,d2,d3,d4,d5⟩
  all_goals
   go_wp2_with fail;go_ret2;exact lv ah.out HN.out HE.out
end
section
open Go.RowKit



end
end Go.Proofs.YtfnopgdcaanaiaaGreatDoor
