/- Parts of the proof. No condition. -/
import Derived.Test.YtbfbobfbgabjiaaGreatDoorP30
import Derived.Test.YtbfbobfbgabjiaaGreatDoorP31
set_option linter.all false
set_option maxRecDepth 100000
set_option maxHeartbeats 8000000
namespace Go.Proofs.YtbfbobfbgabjiaaGreatDoor
open Go.Proofs.Tryz
section
open Go.RowKit Go.Shelf
attribute [local go_sem] Oper.semAt_some
attribute [local go_sem] CV.cells
theorem aK.formN{base n:Nat}{w:World}{v:Value}{ps:List Np.Span}(h:aK base w v ps)(hn:ps.length=n):∃ A c,v = .slice A n c:=by subst hn; exact h.form
theorem aEZ{w:World}{B:Nat}{L:List (CV×Np.Copy)}(h:∀ x∈L,CVOf w B x.1 x.2)(z:List UInt8)(kk:Int):CJ (L.map (·.2)) z kk=(L.filter λx=>decide (x.1.host=kk)&&(x.1.str.data.toList == z)).map λx:CV×Np.Copy=>(⟨x.1.frm,x.1.til⟩:Np.Span):=by
 induction L with
 | nil=>rfl
 | cons x L ih=>
  have hx:=h x (by simp);have ih:=ih (λy hy=>h y (mQ _ hy));unfold CJ at ih |-;rw[List.map_cons,List.filter_cons,List.filter_cons,hx.host,hx.apex];split
  ·rw[List.map_cons,List.map_cons,ih,hx.frm,hx.til]; rfl
  ·exact ih
def Ie(w6:World)(Bl:Nat)(pre:List (CV×Np.Copy))(S:Nat->Prop)(W:World):Prop:=
 ∃ v,(∀ k,S k↔k=Bl\/v.ownBlock=some k)/\Boxed W Bl 46 v/\aK (Bl+1) W v (pre.map λx=>⟨x.1.frm,x.1.til⟩)/\Below Bl w6 W
theorem RB(w6:World)(Bl:Nat)(B:Nat)(hB:Bl<=B)(hs:Bl<=w6.heap.size):fE B (Ie w6 Bl):=by
 rintro s S W W' ⟨v,hS,h1,h2,h3⟩ aq;exact⟨v,hS,ko h1 aq ((hS _).2 (.inl rfl)),fU h2 (λg hg=>aq.keep g (h2.lt g hg).2 (.inr ((hS g).2 (.inr hg)))),vF h3 aq hB hs⟩
theorem aEK(e:List Value)(h:Np.Hist)(hf:Np.sR h)(z:ByteArray)(hz:z.size<=140737488355328)(addr:Int)(w:World)(hR:iS w w.heap.size)(hh:bA w w.heap.size e h) :
 Calls prog 22 #[.agg e.toArray,.string z,.int .i64 addr] w λe w'=>((((¬ Np.VHist h\/Np.aD z.data.toList=false)/\e = .returned (.tuple #[.slice none 0 0,.int .i64 1]))\/(Np.VHist h/\Np.aD z.data.toList=true/\((Np.pK h.hosts addr<0/\e = .returned (.tuple #[.slice none 0 0,.int .i64 4]))\/(¬ Np.pK h.hosts addr<0/\∃ v',e = .returned (.tuple #[v',.int .i64 0])/\aK w.heap.size w' v' (Np.qW h.copies z.data.toList (Np.pK h.hosts addr)))))))/\Below w.heap.size w w':=by
 have pd:=jq hh;obtain⟨hv,cv,s,dv,dh,rfl,aX,eW,h3,h4,h5,h6⟩:=hh;obtain⟨ty,dK⟩:∃ ty,h.anchor.type=ty:=⟨_,rfl⟩;obtain⟨life,pF⟩:∃ life,h.anchor.life=life:=⟨_,rfl⟩;obtain⟨drift,tI⟩:∃ drift,h.drift=drift:=⟨_,rfl⟩;obtain⟨stop,gR⟩:∃ stop,h.stop=stop:=⟨_,rfl⟩;have H3:=jq h3;have H4:=jq h4;have H5:=jq h5;have H6:=jq h6;have HS:=jq (And.intro aX eW);have en:=jq hf;have cI:=jq gR;have gY:=jq (And.intro dK pF);obtain⟨A1,c1,rfl,_,_⟩:=ah h3;obtain⟨A2,c2,rfl,_,_⟩:=ah h4;obtain⟨A3,c3,rfl,_,_⟩:=ah h5;obtain⟨A4,c4,rfl,_,_⟩:=ah h6;clear h3 h4 h5 h6 aX eW hf;obtain⟨n1,aO⟩:∃ n,h.hosts.length=n:=⟨_,rfl⟩;obtain⟨n2,be⟩:∃ n,h.copies.length=n:=⟨_,rfl⟩;obtain⟨n3,cP⟩:∃ n,h.anchor.data.length=n:=⟨_,rfl⟩;obtain⟨n4,cW⟩:∃ n,h.hints.length=n:=⟨_,rfl⟩;rw[aO] at H3;rw[be] at H4;rw[cP] at H5;rw[cW] at H6;rw[aO,be,cP,cW,dK,pF,tI,gR] at pd |-;have iB:=jq be;clear aO be cP cW dK pF tI gR;obtain⟨r,hr⟩:∃ r,Np.yes (Np.VHist h)=r:=⟨_,rfl⟩;have lO:=jq hr;clear hr;obtain⟨X,hX⟩:∃ X,w.heap.size=X:=⟨_,rfl⟩;obtain⟨W1,ai⟩:∃ W1,((w.alloc (.cells #[.slice A1 n1 c1,.slice A2 n2 c2,.string s,.int .i64 ty,.int .i64 life,.slice A3 n3 c3,.slice A4 n4 c4,.int .i64 drift,.int .i64 stop] 29)).alloc (.cells #[.string z] 9)).alloc (.cells #[.int .i64 addr] 3)=W1:=⟨_,rfl⟩;have aG:Below w.heap.size w W1:=by rw[<-ai]; exact (((vQ _ _).alloc (bQ _) _).alloc (by simp <;> omega) _).alloc (by simp <;> omega) _
 have jA:W1.heap.size=X+3:=by rw[<-ai,<-hX]; simp
 have k0:W1.cell? ⟨X,0,none⟩=some (.slice A1 n1 c1):=by rw[<-ai,<-hX]; simp[go_sem]
 have k1:W1.cell? ⟨X,1,none⟩=some (.slice A2 n2 c2):=by rw[<-ai,<-hX]; simp[go_sem]
 have k2:W1.cell? ⟨X,2,none⟩=some (.string s):=by rw[<-ai,<-hX]; simp[go_sem]
 have k3:W1.cell? ⟨X,3,none⟩=some (.int .i64 ty):=by rw[<-ai,<-hX]; simp[go_sem]
 have k4:W1.cell? ⟨X,4,none⟩=some (.int .i64 life):=by rw[<-ai,<-hX]; simp[go_sem]
 have k5:W1.cell? ⟨X,5,none⟩=some (.slice A3 n3 c3):=by rw[<-ai,<-hX]; simp[go_sem]
 have k6:W1.cell? ⟨X,6,none⟩=some (.slice A4 n4 c4):=by rw[<-ai,<-hX]; simp[go_sem]
 have k7:W1.cell? ⟨X,7,none⟩=some (.int .i64 drift):=by rw[<-ai,<-hX]; simp[go_sem]
 have k8:W1.cell? ⟨X,8,none⟩=some (.int .i64 stop):=by rw[<-ai,<-hX]; simp[go_sem]
 have kz:W1.cell? ⟨X+1,0,none⟩=some (.string z):=by rw[<-ai,<-hX]; simp[go_sem]
 have ka:W1.cell? ⟨X+1+1,0,none⟩=some (.int .i64 addr):=by rw[<-ai,<-hX]; simp[go_sem]
 have f9:=jq hR;rw[hX] at aG H3 H4 H5 H6 pd f9 |-;have aB:=jq aG;clear aG hR;refine (callsIn_wide (n:=0)).1 ?_;refine callsIn_of_wp_marks func22 rfl trivial ?_ rfl;simp only[ntmps22,List.size_toArray,List.length_cons,List.length_nil,Nat.reduceAdd,Nat.reduceSub,Array.replicate_succ,Array.replicate_zero,List.push_toArray,List.append_toArray,List.nil_append,List.cons_append];gi_wp2_with fail;refine⟨trivial,rfl,?_⟩;refine (callsIn_wide.2 (Er _ h en.out W1 ((f9.out.keep aB.out).more (by omega)) (de _ _ _ _ _ (da _ _ _ _ _ pd.out aB.out) (by omega)))).mono ?_;rw[lO.out];rintro e w2 ⟨rfl,ab⟩;have aM:=ab.size;have m0:=(cl ab (by omega)).trans k0;have m1:=(cl ab (by omega)).trans k1;have m2:=(cl ab (by omega)).trans k2;have m3:=(cl ab (by omega)).trans k3;have m4:=(cl ab (by omega)).trans k4;have m5:=(cl ab (by omega)).trans k5;have m6:=(cl ab (by omega)).trans k6;have m7:=(cl ab (by omega)).trans k7;have m8:=(cl ab (by omega)).trans k8;have mz:=(cl ab (by omega)).trans kz;have ma:=(cl ab (by omega)).trans ka;have al:=jq (aB.out.trans (ab.mono (by omega)));clear ab ai hX k0 k1 k2 k3 k4 k5 k6 k7 k8 kz ka
 cases r with
 | false=>
  have HN:Hid (¬ Np.VHist h):=jq (λh=>by have:=Np.bM h; rw[lO.out] at this; cases this);gi_wp2_with fail;refine⟨trivial,?_⟩;gi_wp2_with fail;exact nl (v:=.tuple #[.slice none 0 0,.int .i64 1]) (by simp[results,results22,go_sem]) ⟨.inl ⟨.inl HN.out,rfl⟩,al.out⟩
 | true=>
  have HV:Hid (Np.VHist h):=jq (Np.fz.1 lO.out);gi_wp2_with fail;refine⟨trivial,rfl,?_⟩;refine (callsIn_wide.2 (nameValid_any z hz _)).mono ?_;rintro e w3 ⟨rfl,ag⟩;have er:=ag.size;replace m0:=(cl ag (by omega)).trans m0;replace m1:=(cl ag (by omega)).trans m1;replace m2:=(cl ag (by omega)).trans m2;replace m3:=(cl ag (by omega)).trans m3;replace m4:=(cl ag (by omega)).trans m4;replace m5:=(cl ag (by omega)).trans m5;replace m6:=(cl ag (by omega)).trans m6;replace m7:=(cl ag (by omega)).trans m7;replace m8:=(cl ag (by omega)).trans m8;replace mz:=(cl ag (by omega)).trans mz;replace ma:=(cl ag (by omega)).trans ma;have ar:=jq (al.out.trans (ag.mono (by omega)));clear ag
  cases eq:Np.aD z.data.toList with
  | false=>
   have jk:=jq eq;clear eq;gi_wp2_with fail;exact nl (v:=.tuple #[.slice none 0 0,.int .i64 1]) (by simp[results,results22,go_sem]) ⟨.inl ⟨.inr jk.out,rfl⟩,ar.out⟩
  | true=>
   have jk:=jq eq;have TQ:=jq ma;clear eq;have XH:X+3<=w3.heap.size:=by omega
   gi_wp2_with fail;refine⟨trivial,rfl,?_⟩;refine (callsIn_wide.2 (aaK fw 69 Wq #[.pointer (some ⟨X+1+1,0,none⟩)] (λx:Np.Host=>decide (x.addr=addr)) _ h.hosts w3 w3.heap.size (bQ _) ((H3.out.keep fw ar.out).more kP (by omega)) (λW x e0 e1 e2 _ hW ym hR=>by
    obtain⟨t,_,_,he⟩:=hR;simp only[List.cons.injEq,and_true] at he;obtain⟨rfl,rfl,rfl⟩:=he;exact aIK t _ _ (X+1+1) addr W (by omega) ((cl hW (by omega)).trans TQ.out)))).mono ?_
   rintro e w4 ⟨rfl,an⟩;have gC:=an.size;have n40:=(cl an (by omega)).trans m0;have n41:=(cl an (by omega)).trans m1;have n42:=(cl an (by omega)).trans m2;have n43:=(cl an (by omega)).trans m3;have n44:=(cl an (by omega)).trans m4;have n45:=(cl an (by omega)).trans m5;have n46:=(cl an (by omega)).trans m6;have n47:=(cl an (by omega)).trans m7;have n48:=(cl an (by omega)).trans m8;clear m0 m1 m2 m3 m4 m5 m6 m7 m8;have n4z:=(cl an (by omega)).trans mz;have bq:=jq (ar.out.trans (an.mono (by omega)));clear an ma mz;obtain⟨kk,yC⟩:∃ kk,kr (λx:Np.Host=>decide (x.addr=addr)) h.hosts=kk:=⟨_,rfl⟩;have zW:Hid (Np.pK h.hosts addr=kk):=jq yC;rw[yC];clear yC;by_cases yG:kk<0
   ·have hd:decide (kk<0)=true:=uQ yG;have G0:=jq yG;clear yG;gi_wp2_with fail;exact nl (v:=.tuple #[.slice none 0 0,.int .i64 4]) (by simp[results,results22,go_sem]) ⟨.inr ⟨HV.out,jk.out,.inl ⟨by rw[zW.out]; exact G0.out,rfl⟩⟩,bq.out.alloc (by omega) _⟩
   ·have hd:decide (kk<0)=false:=tQ yG;have G0:=jq yG;clear yG;obtain⟨Bh,rK⟩:∃ Bh,w4.heap.size=Bh:=⟨_,rfl⟩;obtain⟨w5,aP⟩:∃ w5,(w4.alloc (.cells #[.int .i64 kk] 3)).alloc (.cells #[.slice none 0 0] 46)=w5:=⟨_,rfl⟩;have aF:Below w4.heap.size w4 w5:=by rw[<-aP]; exact ((vQ _ _).alloc (bQ _) _).alloc (by simp) _
    have me:w5.heap.size=Bh+2:=by rw[<-aP,<-rK]; simp
    have n50:=(cl aF (by omega)).trans n40;have n51:=(cl aF (by omega)).trans n41;have n52:=(cl aF (by omega)).trans n42;have n53:=(cl aF (by omega)).trans n43;have n54:=(cl aF (by omega)).trans n44;have n55:=(cl aF (by omega)).trans n45;have n56:=(cl aF (by omega)).trans n46;have n57:=(cl aF (by omega)).trans n47;have n58:=(cl aF (by omega)).trans n48;have n5z:=(cl aF (by omega)).trans n4z;have kh:w5.cell? ⟨Bh,0,none⟩=some (.int .i64 kk):=by rw[<-aP,<-rK]; simp[go_sem]
    have gk:Hid (Boxed w5 (Bh+1) 46 (.slice none 0 0)):=jq (by rw[<-aP,<-rK]; have:=Boxed.new (w4.alloc (.cells #[.int .i64 kk] 3)) 46 (.slice none 0 0); simpa using this);have cS:=jq (bq.out.trans (aF.mono (by omega)));clear aF n40 n41 n42 n43 n44 n45 n46 n47 n48 n4z;gi_wp2_with fail;refine⟨trivial,rfl,?_⟩;refine (callsIn_wide.2 (Io _ _ _ _ _ _ _ _ _ 70 #[.pointer (some ⟨Bh,0,none⟩),.pointer (some ⟨X+1,0,none⟩)] w5)).mono ?_;rintro e w6 ⟨rfl,bK⟩;have il:w6.heap.size=Bh+4:=by rw[bK]; simp; omega
    have aU:Below w5.heap.size w5 w6:=by rw[bK]; exact ((vQ _ _).alloc (bQ _) _).alloc (by simp) _
    have kX:w6.cell? ⟨Bh+2,1,none⟩=some (.slice A2 n2 c2):=by rw[bK,<-me]; simp[go_sem]
    have kO:w6.cell? ⟨Bh+2+1,0,none⟩=some (.func (.func 70) #[] #[.pointer (some ⟨Bh,0,none⟩),.pointer (some ⟨X+1,0,none⟩)]):=by rw[bK,show Bh+2+1=w5.heap.size+1 by omega]; simp[go_sem]
    rw[me];obtain⟨L,g9,pr,oy⟩:=It (H4.out.keep fu (cS.out.trans (aU.mono (by omega))));have mX:=jq ((cl aU (by omega)).trans n5z);have TE:=jq ((cl aU (by omega)).trans kh);have zT:=jq (Ip L (λx=>decide (x.1.host=kk)&&(x.1.str.data.toList == z.data.toList)) 70 #[.pointer (some ⟨Bh,0,none⟩),.pointer (some ⟨X+1,0,none⟩)] (Bh+2) (Bh+2+1) n2 c2 (λk=>k<w6.heap.size/\k≠Bh+1) A2 w6 ⟨by omega,by omega⟩ ⟨by omega,by omega⟩ kX kO pr (by have:=en.out.1; have:=iB.out; omega)
     (λi x hx=>by
       obtain⟨_,b,o,h1,h2,h3⟩:=oy i x hx;exact⟨b,o,h1,⟨by omega,by omega⟩,h3⟩) Wr
     (λx hx W hW=>by
       have h1:=(hW.cell (p:=⟨X+1,0,none⟩) ⟨by dsimp only; omega,by dsimp only; omega⟩).trans mX.out;have h2:=(hW.cell (p:=⟨Bh,0,none⟩) ⟨by dsimp only; omega,by dsimp only; omega⟩).trans TE.out
       have:=hW.1
       exact aIX x.1.host x.1.frm x.1.til x.1.str _ x.1.A x.1.n x.1.c rfl Bh (X+1) kk z W (by omega) (by omega) h2 h1))
    have Gb:Hid (Boxed w6 (Bh+1) 46 (.slice none 0 0)):=jq (eP gk.out aU (by omega));have ca:=jq (cS.out.trans (aU.mono (by omega)));have la:=jq g9;have zY:=jq oy;have mu:Hid (∀ x∈L,CVOf w6 X x.1 x.2):=jq (λx hx=>by obtain⟨i,hi⟩:=List.mem_iff_getElem?.1 hx; exact (oy i x hi).1);clear aU bK aP kX kO g9 oy n5z kh n50 n51 n52 n53 n54 n55 n56 n57 n58;have ML:=jq il;gi_wp2_with fail;refine Lh (Dr:=λk=>k<w6.heap.size/\k≠Bh+1) (w0:=w6) (first:=#[]) (captured:=#[.pointer (some ⟨Bh+2,0,none⟩),.pointer (some ⟨Bh+2+1,0,none⟩)]) (gf:=91) rfl Iw (mk:=λy=>#[y,.pointer (some ⟨Bh+2,0,none⟩),.pointer (some ⟨Bh+2+1,0,none⟩)]) (λ_=>rfl)
     zT.out (fL.refl λk e=>e.1) (λ_=>rfl) (Ie w6 (Bh+1)) (λ_ _ _ _=>False)
     (RB _ _ _ (by omega) (by omega)) (λc s S W W' h _=>h)
     (λk=>k=Bh+1) (λk h1 h2=>h2.2 h1) (by intro k h; omega)
     ⟨_,λk=>by simp[Value.ownBlock],Gb.out,aK.nil _ _,vQ _ _⟩ ?round ?done ?stop
    case stop=>
     rintro D c pre S W hD gu bD iJ h hK;exact h.elim
    case round=>
     rintro l0 pre ⟨⟨xh,xf,xt,xs,xA,xn,xc⟩,cc⟩ S W ck hI fG;have kF:pre.length<=500:=by
      have h1:=ck.length_le;have h2:=List.length_filter_le (λx:CV×Np.Copy=>decide (x.1.host=kk)&&(x.1.str.data.toList == z.data.toList)) L;have h3:=en.out.1;have h4:=iB.out;rw[List.length_append,List.length_singleton] at h1;omega
     have lS:Ie w6 (Bh+1) pre S (W.alloc (.cells #[.int .i64 xh,.int .i64 xf,.int .i64 xt,.string xs,.slice xA xn xc] 58)):=by
      obtain⟨v,hS,ek,hown,hB⟩:=hI;exact⟨v,hS,ek.alloc _,hown.alloc _,hB.alloc (by have:=hB.size; omega) _⟩
     have ym:w6.heap.size<=W.heap.size:=by obtain⟨v,_,_,_,hB⟩:=hI; exact hB.size
     have vd:=jq ck;have lc:=jq kF;clear hI ck kF;gi_wp2;refine⟨λk=>S k\/k=W.heap.size,(RdStep.refl S W).alloc _,λk e=>e.imp id (λh=>by omega),λk e=>by rcases e with e | e; have:=fG k e; simp; omega; simp; omega,?_⟩;intro l W₂ aq;obtain⟨v,hS,ek,hown,hB⟩:=RB w6 (Bh+1) w6.heap.size (by omega) (by omega) pre S _ W₂ lS (aq.weaken (bQ _) (λk e=>.inl e));have kH:=aq.size;simp only[World.size_alloc] at kH;have gg:W₂.heap[W.heap.size]?=some (.cells #[.int .i64 xh,.int .i64 xf,.int .i64 xt,.string xs,.slice xA xn xc] 58):=(aq.keep W.heap.size (by simp) (.inr (.inr rfl))).trans (heap_alloc_new _ _);have cc1:W₂.cell? ⟨W.heap.size,1,none⟩=some (.int .i64 xf):=by simp[World.cell?,gg]
     have cc2:W₂.cell? ⟨W.heap.size,2,none⟩=some (.int .i64 xt):=by simp[World.cell?,gg]
     have mC:∀ k,S k->k<W₂.heap.size:=λk e=>by have:=fG k e; omega
     have qN:∀ g,v.ownBlock=some g->Bh+1+1<=g/\g<W₂.heap.size:=λg hg=>hown.lt g hg;obtain⟨vA,vc,rfl⟩:=hown.form;obtain⟨m,hm⟩:∃ m,(pre.map λx:CV×Np.Copy=>(⟨x.1.frm,x.1.til⟩:Np.Span)).length=m:=⟨_,rfl⟩;have lY:m<=500:=by rw[<-hm,List.length_map]; exact lc.out
     rw[hm] at ek qN hS hown;have bc:=ek.cell;have bf:=ek.frozen;have sU:=jq ek;have Ae:=jq hown;have HM:=jq hm;have MB:=jq qN;have qm:=jq hS;have HB:=jq hB;have LT:=jq lS;have vj:=jq mC;obtain⟨w7,gS⟩:∃ w7,W₂.alloc (.cells #[.int .i64 xf,.int .i64 xt] 114)=w7:=⟨_,rfl⟩;have dY:Below W₂.heap.size W₂ w7:=by rw[<-gS]; exact (vQ _ _).alloc (bQ _) _
     have mL:w7.heap.size=W₂.heap.size+1:=by rw[<-gS]; simp
     have d0:w7.cell? ⟨W₂.heap.size,0,none⟩=some (.int .i64 xf):=by rw[<-gS]; simp[go_sem]
     have d1:w7.cell? ⟨W₂.heap.size,1,none⟩=some (.int .i64 xt):=by rw[<-gS]; simp[go_sem]
     have dJ:=jq dY;have Us:Hid (RdStep (λk=>S k\/k=W.heap.size) W₂ w7):=jq (RdStep.of_below dY);have XI:X<W₂.heap.size:=by omega
     clear hm ek hown qN hS hB lS mC dY aq gg fG;gi_wp2_with (first
      | (gi_at_builtin; refine R0 rfl (by intro c h; cases h) (by rintro⟨_,_,h⟩; exact h) ?_; refine R1 w7 rfl _ _ rfl (Bh+1+1) _ _ rfl (Ae.out.keep dJ.out) W₂.heap.size xf xt rfl d0 d1 (by rw[HM.out]; omega) (by omega) ?_; intro v8 w8 bY aW eT; obtain⟨A8,c8,rfl⟩:=aK.formN bY (n:=m+1) (by have:=HM.out; simp at this |-; omega); have H8:=jq (And.intro bY (And.intro aW eT)); have sC:=aW.size; have Eh:=((aW.block (Bh+1) (by omega) (λe=>by have:=(MB.out _ e.symm).1; omega)).trans (dJ.out.block (Bh+1) (by omega))).trans sU.out; have SD:Hid (Boxed w8 (Bh+1) 46 (.slice vA m vc)):=jq Eh; have bc8:w8.cell? ⟨Bh+1,0,none⟩=some (.slice vA m vc):=Boxed.cell Eh; have bf8:w8.frozen? ⟨Bh+1,0,none⟩=false:=Boxed.frozen Eh; clear bY aW eT Eh; refine R2 ?_))
     have JQ:∀ k,(Value.slice A8 (m+1) c8).ownBlock=some k->(Value.slice vA m vc).ownBlock=some k\/w7.heap.size=k:=λk e=>by
      rcases H8.out.2.2 with h | h
      ·exact .inl (h ▸ e)
      ·rw[h] at e; exact .inr (Option.some.inj e)
     refine⟨λk=>k=Bh+1\/(Value.slice A8 (m+1) c8).ownBlock=some k,(Us.out.grown H8.out.2.1 (λk e=>.inl (.inl ((qm.out k).2 (.inr e))))).setCell (.inl (.inl ((qm.out _).2 (.inl rfl)))) _,λk e=>?_,λk e=>?_,?_⟩
     ·rcases e with e | e
      ·exact .inl (.inl ((qm.out _).2 (.inl e)))
      ·rcases JQ k e with e | e
       ·exact .inl (.inl ((qm.out _).2 (.inr e)))
       ·right; omega
     ·have:=sC
      simp[World.setCell];rcases e with e | e
      ·omega
      ·have:=(H8.out.1.lt k e).2; omega
     ·refine⟨_,λk=>Iff.rfl,Boxed.set _ SD.out,?_,?_⟩
      ·rw[List.map_append];exact ownsRow_setCell_below H8.out.1 (by dsimp only; omega) _
      ·exact ((HB.out.trans ((dJ.out.mono (by omega)))).trans ((vQ _ _).grown H8.out.2.1 (by omega) (λg hg=>by have:=(MB.out g hg).1; omega))).setCell (by dsimp only; omega) _
    case done=>
     rintro D S W hD gu bD ⟨v,hS,ek,hown,hB⟩ hK;obtain⟨sv,ax⟩:∃ sv,((L.filter λx=>decide (x.1.host=kk)&&(x.1.str.data.toList == z.data.toList)).map λx:CV×Np.Copy=>(⟨x.1.frm,x.1.til⟩:Np.Span))=sv:=⟨_,rfl⟩;have fC:Hid (CJ h.copies z.data.toList kk=sv):=jq (by
      rw[<-ax,<-la.out];exact aEZ mu.out z.data.toList kk)
     rw[ax] at hown;have eX:sv.length<=500:=by
      rw[<-fC.out]
      have:=aEQ h.copies z.data.toList kk
      have:=en.out.1
      omega
     have mq:Hid (∀ s∈sv,Np.Dw s):=jq (λs hs=>by
      rw[<-fC.out] at hs;obtain⟨c,hc,rfl⟩:=List.mem_map.1 hs;have h1:=(HV.out.each c (List.mem_filter.1 hc).1).times;have h2:=HV.out.stop;exact⟨h1.1,h1.2.1,by show c.til<=20000000; omega⟩)
     clear ax;obtain⟨vA,vc,rfl⟩:=hown.form;obtain⟨m,hm⟩:∃ m,sv.length=m:=⟨_,rfl⟩;have gm:=jq hown;have bc:=ek.cell;have ox:=hB.size;have bI:=jq hB;rw[hm] at bc gm;have HM:=jq hm;clear hown ek hB hm;gi_wp2_with fail;refine⟨trivial,rfl,?_⟩;refine (callsIn_wide.2 (QA _ sv (by omega) mq.out W (gm.out.slr (by omega)))).mono ?_;rintro e w9 ⟨v9,rfl,EE,dO⟩;have Xw:=(dO.block D (eQ.1 hK).1).trans hK;have yR:=dO.size;have HN9:Hid (SlR fk 2 w9 w9.heap.size v9 (Np.eL sv)):=jq (EE.slr (by have:=Fb sv; omega));have gG:Hid (∀ g,v9.ownBlock=some g->W.heap.size<=g):=jq (λg hg=>(EE.lt g hg).1);have T2:=jq EE;have du:=jq (ca.out.trans ((bI.out.mono (by omega)).trans (dO.mono (by omega))));have uJ:Hid (D<W.heap.size):=jq (eQ.1 hK).1;clear EE dO hK;gi_wp2_with fail;refine po Xw (v:=.tuple #[v9,.int .i64 0]) (by simp[results,results22,go_sem]) ⟨.inr ⟨HV.out,jk.out,.inr ⟨by rw[zW.out]; exact G0.out,_,rfl,?_⟩⟩,pm du.out (by omega) _⟩;have h9:aK W.heap.size (w9.putObj D (.deferred none)) v9 (Np.eL sv):=fU T2.out (λg hg=>zQ (by have:=gG.out g hg; have:=uJ.out; omega));have ou:aK X (w9.putObj D (.deferred none)) v9 (Np.eL sv):=h9.weak (by omega);rw[zW.out];have tv:Np.qW h.copies z.data.toList kk=Np.eL sv:=by rw[<-fC.out]; rfl
     rw[tv];exact ou
end
end Go.Proofs.YtbfbobfbgabjiaaGreatDoor
