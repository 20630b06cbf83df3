/- No condition. -/
import Derived.Test.YtfnopgdcaanaiaaGreatDoorS10
set_option linter.all false
set_option maxRecDepth 100000
set_option maxHeartbeats 8000000
namespace Go.Proofs.YtfnopgdcaanaiaaGreatDoor
open Go.Proofs.Tryz
section
open Go.RowKit Go.Shelf
attribute [local go_sem] Oper.semAt_some
attribute [local go_sem] CV.cells
theorem aW.formN{base n:Nat}{w:World}{v:Value}{ps:List Np.Span}(h:aW base w v ps)(hn:ps.length=n):∃ A c,v = .slice A n c:=by subst hn;exact h.form
theorem bdZ{w:World}{B:Nat}{L:List (CV×Np.Copy)}(h:∀ x∈L,CVOf w B x.1 x.2)(z:List UInt8)(kk:Int):C5 (L.map (·.2)) z kk=(L.filter λx=>decide (x.1.host=kk)&&(x.1.str.data.toList == z)).map λx:CV×Np.Copy=>(⟨x.1.frm,x.1.til⟩:Np.Span):=by
 induction L with
 | nil=>rfl
 | cons x L ih=>
  have hx:=h x (by simp);have ih:=ih (λy hy=>h y (mQ _ hy));unfold C5 at ih |-;rw[List.map_cons,List.filter_cons,List.filter_cons,hx.host,hx.apex];split
  ·rw[List.map_cons,List.map_cons,ih,hx.frm,hx.til];rfl
  ·exact ih
def IK(w6:World)(Bl:Nat)(pre:List (CV×Np.Copy))(S:Nat->Prop)(W:World):Prop:=
 ∃ v,(∀ k,S k↔k=Bl\/v.ownBlock=some k)/\Boxed W Bl 55 v/\aW (Bl+1) W v (pre.map λx=>⟨x.1.frm,x.1.til⟩)/\Below Bl w6 W
theorem TV(w6:World)(Bl:Nat)(B:Nat)(hB:Bl<=B)(hs:Bl<=w6.heap.size):fO B (IK w6 Bl):=by
 rintro s S W W' ⟨v,hS,h1,h2,h3⟩ ax;exact⟨v,hS,iK h1 ax ((hS _).2 (.inl rfl)),dS h2 (λg hg=>ax.keep g (h2.lt g hg).2 (.inr ((hS g).2 (.inr hg)))),qF h3 ax hB hs⟩
theorem bdX(e:List Value)(h:Np.Hist)(hf:Np.tc h)(z:ByteArray)(hz:z.size<=140737488355328)(addr:Int)(w:World)(hR:gq w w.heap.size)(hh:ik w w.heap.size e h) :
 Calls prog 51 #[.agg e.toArray,.string z,.int .i64 addr] w λe w'=>((((¬ Np.VHist h\/Np.al z.data.toList=false)/\e = .returned (.tuple #[.slice none 0 0,.int .i64 1]))\/(Np.VHist h/\Np.al z.data.toList=true/\((Np.lv h.hosts addr<0/\e = .returned (.tuple #[.slice none 0 0,.int .i64 4]))\/(¬ Np.lv h.hosts addr<0/\∃ v',e = .returned (.tuple #[v',.int .i64 0])/\aW w.heap.size w' v' (Np.nT h.copies z.data.toList (Np.lv h.hosts addr)))))))/\Below w.heap.size w w':=by
 have ph:=jq hh;obtain⟨hv,cv,s,dv,cU,rfl,bU,fH,h3,h4,h5,h6⟩:=hh;obtain⟨ty,cw⟩:=afZ h.anchor.type;obtain⟨life,lp⟩:=afZ h.anchor.life;obtain⟨drift,tU⟩:=afZ h.drift;obtain⟨stop,jl⟩:=afZ h.stop;have H3:=jq h3;have H4:=jq h4;have H5:=jq h5;have H6:=jq h6;have HS:=jq (And.intro bU fH);have dZ:=jq hf;have cV:=jq jl;have gm:=jq (And.intro cw lp);obtain⟨A1,c1,rfl,_,_⟩:=ak h3;obtain⟨A2,c2,rfl,_,_⟩:=ak h4;obtain⟨A3,c3,rfl,_,_⟩:=ak h5;obtain⟨A4,c4,rfl,_,_⟩:=ak h6;clear h3 h4 h5 h6 bU fH hf;obtain⟨n1,bE⟩:=afZ h.hosts.length;obtain⟨n2,bS⟩:=afZ h.copies.length;obtain⟨n3,cR⟩:=afZ h.anchor.data.length;obtain⟨n4,cX⟩:=afZ h.hints.length;rw[bE] at H3;rw[bS] at H4;rw[cR] at H5;rw[cX] at H6;rw[bE,bS,cR,cX,cw,lp,tU,jl] at ph |-;have lK:=jq bS;clear bE bS cR cX cw lp tU jl;obtain⟨r,hr⟩:=afZ (Np.yes (Np.VHist h));have lN:=jq hr;clear hr;obtain⟨X,hX⟩:=afZ w.heap.size;obtain⟨W1,aB⟩:=afZ (((w.alloc (.cells #[.slice A1 n1 c1,.slice A2 n2 c2,.string s,.int .i64 ty,.int .i64 life,.slice A3 n3 c3,.slice A4 n4 c4,.int .i64 drift,.int .i64 stop] 29)).alloc (.cells #[.string z] 9)).alloc (.cells #[.int .i64 addr] 3));have aM:Below w.heap.size w W1:=by rw[<-aB];exact ((blAl).alloc (by simp<;>omega) _).alloc (by simp<;>omega) _
 have jS:W1.heap.size=X+3:=by rw[<-aB,<-hX];simp
 obtain⟨k0,k1,k2,k3,k4,k5,k6,k7,k8⟩:=cRow9 W1 X (.slice A1 n1 c1) (.slice A2 n2 c2) (.string s) (.int .i64 ty) (.int .i64 life) (.slice A3 n3 c3) (.slice A4 n4 c4) (.int .i64 drift) (.int .i64 stop) (by rw[<-aB,<-hX];simp[go_sem]);have kz:W1.cell? ⟨X+1,0,none⟩=some (.string z):=by rw[<-aB,<-hX];simp[go_sem]
 have ka:W1.cell? ⟨X+1+1,0,none⟩=some (.int .i64 addr):=by rw[<-aB,<-hX];simp[go_sem]
 have ef:=jq hR;rw[hX] at aM H3 H4 H5 H6 ph ef |-;have aS:=jq aM;clear aM hR;refine (callsIn_wide (n:=0)).1 ?_;refine callsIn_of_wp_marks func51 rfl trivial ?_ rfl;simp only[ntmps51,List.size_toArray,List.length_cons,List.length_nil,Nat.reduceAdd,Nat.reduceSub,Array.replicate_succ,Array.replicate_zero,List.push_toArray,List.append_toArray,List.nil_append,List.cons_append];gi_wp2_with fail;refine⟨trivial,rfl,?_⟩;refine (callsIn_wide.2 (EZ _ h dZ.out W1 ((ef.out.keep aS.out).more (by omega)) (sV _ _ _ _ _ (sU _ _ _ _ _ ph.out aS.out) (by omega)))).mono ?_;rw[lN.out];rintro e w2 ⟨rfl,aa⟩;have aO:=aa.size;have m0:=aeK aa k0;have m1:=aeK aa k1;have m2:=aeK aa k2;have m3:=aeK aa k3;have m4:=aeK aa k4;have m5:=aeK aa k5;have m6:=aeK aa k6;have m7:=aeK aa k7;have m8:=aeK aa k8;have mz:=aeK aa kz;have ma:=aeK aa ka;have ah:=aeX aS aa;clear aa aB hX k0 k1 k2 k3 k4 k5 k6 k7 k8 kz ka
 cases r with
 | false=>
  have HN:Hid (¬ Np.VHist h):=jq (λh=>by have:=Np.bV h;rw[lN.out] at this;cases this);gi_wp2_with fail;refine⟨trivial,?_⟩;gi_wp2_with fail;exact nf (v:=.tuple #[.slice none 0 0,.int .i64 1]) (by simp[results,results51,go_sem]) ⟨.inl ⟨.inl HN.out,rfl⟩,ah.out⟩
 | true=>
  have HV:Hid (Np.VHist h):=jq (Np.eZ.1 lN.out);gi_wp2_with fail;refine⟨trivial,rfl,?_⟩;refine (callsIn_wide.2 (nameValid_any z hz _)).mono ?_;rintro e w3 ⟨rfl,ai⟩;have dR:=ai.size;replace m0:=aeK ai m0;replace m1:=aeK ai m1;replace m2:=aeK ai m2;replace m3:=aeK ai m3;replace m4:=aeK ai m4;replace m5:=aeK ai m5;replace m6:=aeK ai m6;replace m7:=aeK ai m7;replace m8:=aeK ai m8;replace mz:=aeK ai mz;replace ma:=aeK ai ma;have aw:=aeX ah ai;clear ai
  cases dg:Np.al z.data.toList with
  | false=>
   have gD:=jq dg;clear dg;gi_wp2_with fail;exact nf (v:=.tuple #[.slice none 0 0,.int .i64 1]) (by simp[results,results51,go_sem]) ⟨.inl ⟨.inr gD.out,rfl⟩,aw.out⟩
  | true=>
   have gD:=jq dg;have Wj:=jq ma;clear dg;have hX3:X+3<=w3.heap.size:=by omega
   gi_wp2_with fail;refine⟨trivial,rfl,?_⟩;refine (callsIn_wide.2 (R2 gy 107 ZE #[.pointer (some ⟨X+1+1,0,none⟩)] (λx:Np.Host=>decide (x.addr=addr)) _ h.hosts w3 w3.heap.size (bQ _) ((H3.out.keep gy aw.out).more mN (by omega)) (λW x e0 e1 e2 _ hW qM hR=>by
    obtain⟨t,_,_,he⟩:=hR;simp only[List.cons.injEq,and_true] at he;obtain⟨rfl,rfl,rfl⟩:=he;exact bjJ t _ _ (X+1+1) addr W (by omega) (aeK hW Wj.out)))).mono ?_
   rintro e w4 ⟨rfl,ar⟩;have fz:=ar.size;have n40:=aeK ar m0;have n41:=aeK ar m1;have n42:=aeK ar m2;have n43:=aeK ar m3;have n44:=aeK ar m4;have n45:=aeK ar m5;have n46:=aeK ar m6;have n47:=aeK ar m7;have n48:=aeK ar m8;clear m0 m1 m2 m3 m4 m5 m6 m7 m8;have n4z:=aeK ar mz;have bi:=aeX aw ar;clear ar ma mz;obtain⟨kk,ll⟩:=afZ (jF (λx:Np.Host=>decide (x.addr=addr)) h.hosts);have uX:Hid (Np.lv h.hosts addr=kk):=jq ll;rw[ll];clear ll;by_cases nE:kk<0
   ·have hd:decide (kk<0)=true:=uQ nE;have ry:=jq nE;clear nE;gi_wp2_with fail;exact nf (v:=.tuple #[.slice none 0 0,.int .i64 4]) (by simp[results,results51,go_sem]) ⟨.inr ⟨HV.out,gD.out,.inl ⟨by rw[uX.out];exact ry.out,rfl⟩⟩,bi.out.alloc (by omega) _⟩
   ·have hd:decide (kk<0)=false:=tQ nE;have ry:=jq nE;clear nE;obtain⟨Bh,ng⟩:=afZ w4.heap.size;obtain⟨w5,aK⟩:=afZ ((w4.alloc (.cells #[.int .i64 kk] 3)).alloc (.cells #[.slice none 0 0] 55));have aG:Below w4.heap.size w4 w5:=by rw[<-aK];exact (blAl).alloc (by simp) _
    have lB:w5.heap.size=Bh+2:=by rw[<-aK,<-ng];simp
    have n50:=aeK aG n40;have n51:=aeK aG n41;have n52:=aeK aG n42;have n53:=aeK aG n43;have n54:=aeK aG n44;have n55:=aeK aG n45;have n56:=aeK aG n46;have n57:=aeK aG n47;have n58:=aeK aG n48;have n5z:=aeK aG n4z;have kh:w5.cell? ⟨Bh,0,none⟩=some (.int .i64 kk):=by rw[<-aK,<-ng];simp[go_sem]
    have fe:Hid (Boxed w5 (Bh+1) 55 (.slice none 0 0)):=jq (by rw[<-aK,<-ng];have:=Boxed.new (w4.alloc (.cells #[.int .i64 kk] 3)) 55 (.slice none 0 0);simpa using this);have cg:=aeX bi aG;clear aG n40 n41 n42 n43 n44 n45 n46 n47 n48 n4z;gi_wp2_with fail;refine⟨trivial,rfl,?_⟩;refine (callsIn_wide.2 (IW _ _ _ _ _ _ _ _ _ 108 #[.pointer (some ⟨Bh,0,none⟩),.pointer (some ⟨X+1,0,none⟩)] w5)).mono ?_;rintro e w6 ⟨rfl,bC⟩;have eX:w6.heap.size=Bh+4:=by rw[bC];simp;omega
    have aT:Below w5.heap.size w5 w6:=by rw[bC];exact (blAl).alloc (by simp) _
    have kX:w6.cell? ⟨Bh+2,1,none⟩=some (.slice A2 n2 c2):=by rw[bC,<-lB];simp[go_sem]
    have kO:w6.cell? ⟨Bh+2+1,0,none⟩=some (.func (.func 108) #[] #[.pointer (some ⟨Bh,0,none⟩),.pointer (some ⟨X+1,0,none⟩)]):=by rw[bC,show Bh+2+1=w5.heap.size+1 by omega];simp[go_sem]
    rw[lB];obtain⟨L,gT,nk,lh⟩:=IZ (H4.out.keep mg (cg.out.trans (aT.afK)));have rx:=jq (aeK aT n5z);have Ho:=jq (aeK aT kh);have uU:=jq (IX L (λx=>decide (x.1.host=kk)&&(x.1.str.data.toList == z.data.toList)) 108 #[.pointer (some ⟨Bh,0,none⟩),.pointer (some ⟨X+1,0,none⟩)] (Bh+2) (Bh+2+1) n2 c2 (λk=>k<w6.heap.size/\k≠Bh+1) A2 w6 ⟨by omega,by omega⟩ ⟨by omega,by omega⟩ kX kO nk (by have:=dZ.out.1;have:=lK.out;omega)
     (λi x hx=>by
       obtain⟨_,b,o,h1,h2,h3⟩:=lh i x hx;exact⟨b,o,h1,⟨by omega,by omega⟩,h3⟩) ZF
     (λx hx W hW=>by
       have h1:=(hW.cell (p:=⟨X+1,0,none⟩) ⟨by dsimp only;omega,by dsimp only;omega⟩).trans rx.out;have h2:=(hW.cell (p:=⟨Bh,0,none⟩) ⟨by dsimp only;omega,by dsimp only;omega⟩).trans Ho.out
       have:=hW.1
       exact bjK x.1.host x.1.frm x.1.til x.1.str _ x.1.A x.1.n x.1.c rfl Bh (X+1) kk z W (by omega) (by omega) h2 h1))
    have Ae:=jq (ahQ fe.out aT);have cn:=aeX cg aT;have iX:=jq gT;have AA:=jq lh;have qy:Hid (∀ x∈L,CVOf w6 X x.1 x.2):=jq (λx hx=>by obtain⟨i,hi⟩:=List.mem_iff_getElem?.1 hx;exact (lh i x hi).1);clear aT bC aK kX kO gT lh n5z kh n50 n51 n52 n53 n54 n55 n56 n57 n58;have IF:=jq eX;gi_wp2_with fail;refine Dd (Dr:=λk=>k<w6.heap.size/\k≠Bh+1) (w0:=w6) (first:=#[]) (captured:=#[.pointer (some ⟨Bh+2,0,none⟩),.pointer (some ⟨Bh+2+1,0,none⟩)]) (gf:=141) rfl I1 (mk:=λy=>#[y,.pointer (some ⟨Bh+2,0,none⟩),.pointer (some ⟨Bh+2+1,0,none⟩)]) (λ_=>rfl)
     uU.out (dI.refl λk e=>e.1) (λ_=>rfl) (IK w6 (Bh+1)) (λ_ _ _ _=>False)
     (TV _ _ _ (by omega) (by omega)) (λc s S W W' h _=>h)
     (λk=>k=Bh+1) (λk h1 h2=>h2.2 h1) (by intro k h;omega)
     ⟨_,λk=>by simp[Value.ownBlock],Ae.out,aW.nil _ _,vQ _ _⟩ ?round ?done ?stop
    case stop=>
     rintro D c pre S W hD el bR g8 h hK;exact h.elim
    case round=>
     rintro l0 pre ⟨⟨xh,xf,xt,xs,xA,xn,xc⟩,cc⟩ S W bM hI ed;have dY:pre.length<=500:=by
      have h1:=bM.length_le;have h2:=List.length_filter_le (λx:CV×Np.Copy=>decide (x.1.host=kk)&&(x.1.str.data.toList == z.data.toList)) L;have h3:=dZ.out.1;have h4:=lK.out;rw[List.length_append,List.length_singleton] at h1;omega
     have ld:IK w6 (Bh+1) pre S (W.alloc (.cells #[.int .i64 xh,.int .i64 xf,.int .i64 xt,.string xs,.slice xA xn xc] 46)):=by
      obtain⟨v,hS,cF,hown,hB⟩:=hI;exact⟨v,hS,cF.alloc _,hown.alloc _,hB.alloc (by have:=hB.size;omega) _⟩
     have qM:w6.heap.size<=W.heap.size:=by obtain⟨v,_,_,_,hB⟩:=hI;exact hB.size
     have DO:=jq bM;have gl:=jq dY;clear hI bM dY;gi_wp2;refine⟨λk=>S k\/k=W.heap.size,(RdStep.refl S W).alloc _,λk e=>e.imp id (λh=>by omega),λk e=>by rcases e with e | e;have:=ed k e;simp;omega;simp;omega,?_⟩;intro l W₂ ax;obtain⟨v,hS,cF,hown,hB⟩:=TV w6 (Bh+1) w6.heap.size (by omega) (by omega) pre S _ W₂ ld (ax.weaken (bQ _) (λk e=>.inl e));have mb:=ax.size;simp only[World.size_alloc] at mb;have eT:W₂.heap[W.heap.size]?=some (.cells #[.int .i64 xh,.int .i64 xf,.int .i64 xt,.string xs,.slice xA xn xc] 46):=(ax.keep W.heap.size (by simp) (.inr (.inr rfl))).trans (heap_alloc_new _ _);have cc1:W₂.cell? ⟨W.heap.size,1,none⟩=some (.int .i64 xf):=by simp[World.cell?,eT]
     have cc2:W₂.cell? ⟨W.heap.size,2,none⟩=some (.int .i64 xt):=by simp[World.cell?,eT]
     have iM:∀ k,S k->k<W₂.heap.size:=λk e=>by have:=ed k e;omega
     have me:∀ g,v.ownBlock=some g->Bh+1+1<=g/\g<W₂.heap.size:=λg hg=>hown.lt g hg;obtain⟨vA,vc,rfl⟩:=hown.form;obtain⟨m,hm⟩:=afZ ((pre.map λx:CV×Np.Copy=>(⟨x.1.frm,x.1.til⟩:Np.Span)).length);have lq:m<=500:=by rw[<-hm,List.length_map];exact gl.out
     rw[hm] at cF me hS hown;have bc:=cF.cell;have bf:=cF.frozen;have tf:=jq cF;have AF:=jq hown;have HM:=jq hm;have DY:=jq me;have iZ:=jq hS;have HB:=jq hB;have MX:=jq ld;have pn:=jq iM;obtain⟨w7,gL⟩:=afZ (W₂.alloc (.cells #[.int .i64 xf,.int .i64 xt] 110));have dp:Below W₂.heap.size W₂ w7:=by rw[<-gL];exact blAl
     have mG:w7.heap.size=W₂.heap.size+1:=by rw[<-gL];simp
     have d0:w7.cell? ⟨W₂.heap.size,0,none⟩=some (.int .i64 xf):=by rw[<-gL];simp[go_sem]
     have d1:w7.cell? ⟨W₂.heap.size,1,none⟩=some (.int .i64 xt):=by rw[<-gL];simp[go_sem]
     have cZ:=jq dp;have AN:Hid (RdStep (λk=>S k\/k=W.heap.size) W₂ w7):=jq (RdStep.of_below dp);have hXW:X<W₂.heap.size:=by omega
     clear hm cF hown me hS hB ld iM dp ax eT ed;gi_wp2_with (first
      | (gi_at_builtin;refine LV rfl (by intro c h;cases h) (by rintro⟨_,_,h⟩;exact h) ?_;refine Uj w7 rfl _ _ rfl (Bh+1+1) _ _ rfl (AF.out.keep cZ.out) W₂.heap.size xf xt rfl d0 d1 (by rw[HM.out];omega) (by omega) ?_;intro v8 w8 eE cr il;obtain⟨A8,c8,rfl⟩:=aW.formN eE (n:=m+1) (by have:=HM.out;simp at this |-;omega);have H8:=jq (And.intro eE (And.intro cr il));have p6:=cr.size;have rV:=((cr.block (Bh+1) (by omega) (λe=>by have:=(DY.out _ e.symm).1;omega)).trans (cZ.out.block (Bh+1) (by omega))).trans tf.out;have Af:Hid (Boxed w8 (Bh+1) 55 (.slice vA m vc)):=jq rV;have bc8:w8.cell? ⟨Bh+1,0,none⟩=some (.slice vA m vc):=Boxed.cell rV;have bf8:w8.frozen? ⟨Bh+1,0,none⟩=false:=Boxed.frozen rV;clear eE cr il rV;refine LX ?_))
     have Cz:∀ k,(Value.slice A8 (m+1) c8).ownBlock=some k->(Value.slice vA m vc).ownBlock=some k\/w7.heap.size=k:=λk e=>by
      rcases H8.out.2.2 with h | h
      ·exact .inl (h ▸ e)
      ·rw[h] at e;exact .inr (Option.some.inj e)
     refine⟨λk=>k=Bh+1\/(Value.slice A8 (m+1) c8).ownBlock=some k,(AN.out.grown H8.out.2.1 (λk e=>.inl (.inl ((iZ.out k).2 (.inr e))))).setCell (.inl (.inl ((iZ.out _).2 (.inl rfl)))) _,λk e=>?_,λk e=>?_,?_⟩
     ·rcases e with e | e
      ·exact .inl (.inl ((iZ.out _).2 (.inl e)))
      ·rcases Cz k e with e | e
       ·exact .inl (.inl ((iZ.out _).2 (.inr e)))
       ·right;omega
     ·have:=p6
      simp[World.setCell];rcases e with e | e
      ·omega
      ·have:=(H8.out.1.lt k e).2;omega
     ·refine⟨_,λk=>Iff.rfl,Boxed.set _ Af.out,?_,?_⟩
      ·rw[List.map_append];exact ownsRow_setCell_below H8.out.1 (by dsimp only;omega) _
      ·exact ((HB.out.trans ((cZ.out.afK))).trans ((vQ _ _).grown H8.out.2.1 (by omega) (λg hg=>by have:=(DY.out g hg).1;omega))).blSe _
    case done=>
     rintro D S W hD el bR ⟨v,hS,cF,hown,hB⟩ hK;obtain⟨sv,aN⟩:=afZ ((L.filter λx=>decide (x.1.host=kk)&&(x.1.str.data.toList == z.data.toList)).map λx:CV×Np.Copy=>(⟨x.1.frm,x.1.til⟩:Np.Span));have lM:Hid (C5 h.copies z.data.toList kk=sv):=jq (by
      rw[<-aN,<-iX.out];exact bdZ qy.out z.data.toList kk)
     rw[aN] at hown;have fw:sv.length<=500:=by
      rw[<-lM.out]
      have:=bdQ h.copies z.data.toList kk
      have:=dZ.out.1
      omega
     have mp:Hid (∀ s∈sv,Np.Eb s):=jq (λs hs=>by
      rw[<-lM.out] at hs;obtain⟨c,hc,rfl⟩:=List.mem_map.1 hs;have h1:=(HV.out.each c (List.mem_filter.1 hc).1).times;have h2:=HV.out.stop;exact⟨h1.1,h1.2.1,by show c.til<=20000000;omega⟩)
     clear aN;obtain⟨vA,vc,rfl⟩:=hown.form;obtain⟨m,hm⟩:=afZ sv.length;have eu:=jq hown;have bc:=cF.cell;have ni:=hB.size;have da:=jq hB;rw[hm] at bc eu;have HM:=jq hm;clear hown cF hB hm;gi_wp2_with fail;refine⟨trivial,rfl,?_⟩;refine (callsIn_wide.2 (SC _ sv (by omega) mp.out W (eu.out.slr (by omega)))).mono ?_;rintro e w9 ⟨v9,rfl,E9,cS⟩;have hK9:=(cS.block D (eQ.1 hK).1).trans hK;have zu:=cS.size;have HN9:Hid (SlR fj 2 w9 w9.heap.size v9 (Np.eI sv)):=jq (E9.slr (by have:=La sv;omega));have Vp:Hid (∀ g,v9.ownBlock=some g->W.heap.size<=g):=jq (λg hg=>(E9.lt g hg).1);have Wv:=jq E9;have eN:=jq (cn.out.trans ((da.out.afK).trans (cS.afK)));have pa:Hid (D<W.heap.size):=jq (eQ.1 hK).1;clear E9 cS hK;gi_wp2_with fail;refine mv hK9 (v:=.tuple #[v9,.int .i64 0]) (by simp[results,results51,go_sem]) ⟨.inr ⟨HV.out,gD.out,.inr ⟨by rw[uX.out];exact ry.out,_,rfl,?_⟩⟩,lT eN.out (by omega) _⟩;have h9:aW W.heap.size (w9.putObj D (.deferred none)) v9 (Np.eI sv):=dS Wv.out (λg hg=>zQ (by have:=Vp.out g hg;have:=pa.out;omega));have ou:aW X (w9.putObj D (.deferred none)) v9 (Np.eI sv):=h9.weak (by omega);rw[uX.out];have tI:Np.nT h.copies z.data.toList kk=Np.eI sv:=by rw[<-lM.out];rfl
     rw[tI];exact ou
end
section
open Go.RowKit Go.Sort Go.Shelf
structure ZV where
 str:ByteArray
 A:Option Addr
 n:Nat
 c:Nat
def ZV.ok(x:ZV):Prop:=Np.al x.str.data.toList=true
def ZVN:Type:={ x:ZV // x.ok }
def ke(x:ZVN):List Value:=[.string x.1.str,.slice x.1.A x.1.n x.1.c]
def ZVN.depth(x:ZVN):Int:=((Np.bO x.1.str.data.toList).length:Int)
def vI(x y:ZVN):Int:=y.depth - x.depth
instance:Inhabited ZVN:=⟨⟨⟨⟨#[46]⟩,none,0,0⟩,by unfold ZV.ok;decide⟩⟩
theorem SW{l:List UInt8}(h:Np.al l=true):(Np.bO l).length<=8:=by
 have h1:=D.IQ h;rwa [<-Np.rg,List.length_reverse] at h1
theorem Y3(x y:ZVN)(w:World) :
 Calls prog 117 #[.agg (ke x).toArray,.agg (ke y).toArray] w λe w'=>e = .returned (.int .i64 (vI x y))/\D.Below w.heap.size w w':=
 D.ask3_any x.1.str y.1.str x.1.A y.1.A x.1.n x.1.c y.1.n y.1.c x.2 y.2 (by have:=SW x.2;omega) (by have:=SW y.2;omega) w
theorem ltZ(x y:ZVN):ltOf vI x y=decide (y.depth<x.depth):=by
 unfold ltOf vI;by_cases h:y.depth<x.depth
 ·rw[uQ h,uQ (by omega)]
 ·rw[tQ h,tQ (by omega)]
theorem swoZ:SWO (ltOf vI) where
 irrefl x:=by rw[ltZ];simp
 trans x y z h1 h2:=by rw[ltZ] at *;simp at *;omega
 ntrans x y z h1 h2:=by rw[ltZ] at *;simp at *;omega
theorem bgZ{d d':Array ZVN}(hp:PermIn 0 d.size d d')(hs:SortedIn (ltOf vI) 0 d.size d'):d'.toList.Perm d.toList/\d'.toList.Pairwise λa b=>b.depth<=a.depth:=by
 obtain⟨h1,_,h3⟩:=hp;refine⟨?_,?_⟩
 ·have e1:d'.extract 0 d.size=d':=by rw[<-h1];simp
  have e2:d.extract 0 d.size=d:=by simp
  rwa [e1,e2] at h3
 ·rw[List.pairwise_iff_getElem];intro i j hi hj de
  have:=hs i j (jQ _) de (by rw[<-h1];simpa using hj)
  rw[ltZ,getElem!_pos d' i (by simpa using hi),getElem!_pos d' j (by simpa using hj)] at this;simpa using this
def lP(base:Nat)(w:World)(v:Value)(ps:List ZVN):Prop:=w.ownsRow base 44 2 v ps.length (ps.map ke).flatten
theorem bgQ(base:Nat)(v:Value)(xs:List ZVN)(w:World)(hown:lP base w v xs)(hl:xs.length<=100000) :
 Calls prog 116 #[v,.func (.func 117) #[] #[]] w λe w'=>e = .returned (.tuple #[])/\∃ ys:List ZVN,ys.Perm xs/\ys.Pairwise (λa b=>b.depth<=a.depth)/\lP base w' v ys/\w.grownBy w' v.ownBlock:=by
 have nF:w.ownsRow base 44 2 v xs.length (xs.map ke).flatten:=hown;rcases nF.2 with ⟨rfl,h0⟩ | ⟨g,cap,cur,rfl,dM,hb,h1,h2,h3,h4⟩
 ·have:xs = []:=rQ h0
  subst this;refine (AnyF.slices_SortFunc_none Tryz.sortZone none 0 _ w).mono ?_;intro e w' hh;obtain⟨rfl,rfl⟩:=hh;exact⟨rfl,[],List.Perm.refl _,List.Pairwise.nil,hown,⟨rfl,rfl,rfl,bQ _,λ_ _ _=>rfl⟩⟩
 have aE:∀ w,(isAgg 44).run prog w = .ok true w:=λw=>by kernel_rfl
 have zE:∀ w,(Go.sizeOf 44).run prog w = .ok 2 w:=λw=>by kernel_rfl
 have hH:=QQ ke 2 (λ_=>rfl) (by omega) hb h4;have vT:CmpLays prog 117 #[] ke 2 vI g 0 xs.toArray.size w:=λm os dk _ x y=>(Y3 x y _).mono λe w' ⟨he,hw⟩=>⟨he,Pt hw⟩;have eg:=enters_of func117 (by kernel_rfl) rfl;have yO:=AnyQ.slices_SortFunc Tryz.sortZone 2 aE zE ke (λ_=>rfl) (λx u hu=>by simp only[ke,List.mem_cons,Qh,or_false] at hu;rcases hu with rfl | rfl<;>rfl) vI swoZ 117 #[] g 0 cap xs.toArray w eg vT hH (eQ.1 hb).1 (by simp;omega);refine yO.mono λe w' ⟨he,d',n,os,hp,hs,hw⟩=>⟨he,d'.toList,?_⟩;obtain⟨p1,p2⟩:=bgZ hp hs;have hlen:d'.toList.length=xs.length:=by simpa using p1.length_eq
 refine⟨by simpa using p1,p2,?_,?_⟩
 ·subst hw;unfold lP;rw[hlen]
  have:=SJ ke 2 (λ_=>rfl) (by omega) (n:=n) (os:=os) hlen dM hb h1 h2 h3
  simpa using this
 ·subst hw;exact Pu ke 2 _
end
end Go.Proofs.YtfnopgdcaanaiaaGreatDoor
