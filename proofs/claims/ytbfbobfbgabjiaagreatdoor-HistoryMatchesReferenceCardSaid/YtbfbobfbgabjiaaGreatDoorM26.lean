/- Parts of the proof. No condition. -/
import Derived.Test.YtbfbobfbgabjiaaGreatDoorM23
import Derived.Test.YtbfbobfbgabjiaaGreatDoorM25
set_option linter.all false
set_option maxRecDepth 100000
set_option maxHeartbeats 8000000
namespace Go.Proofs.YtbfbobfbgabjiaaGreatDoor
open Go.Proofs.Tryz
section
open Go.RowKit Go.Shelf
attribute [local go_sem] Oper.semAt_some
attribute [local go_sem] CV.cells
theorem aI.formN{base n:Nat}{w:World}{v:Value}{ps:List Np.Span}(h:aI base w v ps)(hn:ps.length=n):∃ A c,v = .slice A n c:=by subst hn; exact h.form
theorem V8{w:World}{B:Nat}{L:List (CV×Np.Copy)}(h:∀ x∈L,CVOf w B x.1 x.2)(z:List UInt8)(kk:Int):gI (L.map (·.2)) z kk=(L.filter λx=>decide (x.1.host=kk)&&(x.1.str.data.toList == z)).map λx:CV×Np.Copy=>(⟨x.1.frm,x.1.til⟩:Np.Span):=by
 induction L with
 | nil=>rfl
 | cons x L ih=>
  have hx:=h x (by simp);have ih:=ih (λy hy=>h y (mQ _ hy));unfold gI at ih |-;rw[List.map_cons,List.filter_cons,List.filter_cons,hx.host,hx.apex];split
  ·rw[List.map_cons,List.map_cons,ih,hx.frm,hx.til]; rfl
  ·exact ih
def Iv(w6:World)(Bl:Nat)(pre:List (CV×Np.Copy))(S:Nat->Prop)(W:World):Prop:=
 ∃ v,(∀ k,S k↔k=Bl\/v.ownBlock=some k)/\Boxed W Bl 46 v/\aI (Bl+1) W v (pre.map λx=>⟨x.1.frm,x.1.til⟩)/\Below Bl w6 W
theorem My(w6:World)(Bl:Nat)(B:Nat)(hB:Bl<=B)(hs:Bl<=w6.heap.size):gh B (Iv w6 Bl):=by
 rintro s S W W' ⟨v,hS,h1,h2,h3⟩ aB;exact⟨v,hS,kN h1 aB ((hS _).2 (.inl rfl)),fL h2 (λg hg=>aB.keep g (h2.lt g hg).2 (.inr ((hS g).2 (.inr hg)))),vw h3 aB hB hs⟩
theorem Ve(e:List Value)(h:Np.Hist)(hf:Np.oR h)(z:ByteArray)(hz:z.size<=140737488355328)(addr:Int)(w:World)(hR:iW w w.heap.size)(hh:bw w w.heap.size e h) :
 Calls prog 22 #[.agg e.toArray,.string z,.int .i64 addr] w λe w'=>((((¬ Np.VHist h\/Np.aG z.data.toList=false)/\e = .returned (.tuple #[.slice none 0 0,.int .i64 1]))\/(Np.VHist h/\Np.aG z.data.toList=true/\((Np.jL h.hosts addr<0/\e = .returned (.tuple #[.slice none 0 0,.int .i64 4]))\/(¬ Np.jL h.hosts addr<0/\∃ v',e = .returned (.tuple #[v',.int .i64 0])/\aI w.heap.size w' v' (Np.qy h.copies z.data.toList (Np.jL h.hosts addr)))))))/\Below w.heap.size w w':=by
 have gS:=jq hh;obtain⟨hv,cv,s,dv,cj,rfl,aZ,b7,h3,h4,h5,h6⟩:=hh;obtain⟨ty,dD⟩:∃ ty,h.anchor.type=ty:=⟨_,rfl⟩;obtain⟨life,mu⟩:∃ life,h.anchor.life=life:=⟨_,rfl⟩;obtain⟨drift,pT⟩:∃ drift,h.drift=drift:=⟨_,rfl⟩;obtain⟨stop,gj⟩:∃ stop,h.stop=stop:=⟨_,rfl⟩;have H3:=jq h3;have H4:=jq h4;have H5:=jq h5;have H6:=jq h6;have HS:=jq (And.intro aZ b7);have cR:=jq hf;have ck:=jq gj;have fe:=jq (And.intro dD mu);obtain⟨A1,c1,rfl,_,_⟩:=ag h3;obtain⟨A2,c2,rfl,_,_⟩:=ag h4;obtain⟨A3,c3,rfl,_,_⟩:=ag h5;obtain⟨A4,c4,rfl,_,_⟩:=ag h6;clear h3 h4 h5 h6 aZ b7 hf;obtain⟨n1,aJ⟩:∃ n,h.hosts.length=n:=⟨_,rfl⟩;obtain⟨n2,aK⟩:∃ n,h.copies.length=n:=⟨_,rfl⟩;obtain⟨n3,bk⟩:∃ n,h.anchor.data.length=n:=⟨_,rfl⟩;obtain⟨n4,bl⟩:∃ n,h.hints.length=n:=⟨_,rfl⟩;rw[aJ] at H3;rw[aK] at H4;rw[bk] at H5;rw[bl] at H6;rw[aJ,aK,bk,bl,dD,mu,pT,gj] at gS |-;have iA:=jq aK;clear aJ aK bk bl dD mu pT gj;obtain⟨r,hr⟩:∃ r,Np.yes (Np.VHist h)=r:=⟨_,rfl⟩;have fi:=jq hr;clear hr;obtain⟨X,hX⟩:∃ X,w.heap.size=X:=⟨_,rfl⟩;obtain⟨W1,ae⟩:∃ W1,((w.alloc (.cells #[.slice A1 n1 c1,.slice A2 n2 c2,.string s,.int .i64 ty,.int .i64 life,.slice A3 n3 c3,.slice A4 n4 c4,.int .i64 drift,.int .i64 stop] 29)).alloc (.cells #[.string z] 9)).alloc (.cells #[.int .i64 addr] 3)=W1:=⟨_,rfl⟩;have aw:Below w.heap.size w W1:=by rw[<-ae]; exact (((vQ _ _).alloc (bQ _) _).alloc (by simp <;> omega) _).alloc (by simp <;> omega) _
 have eG:W1.heap.size=X+3:=by rw[<-ae,<-hX]; simp
 have k0:W1.cell? ⟨X,0,none⟩=some (.slice A1 n1 c1):=by rw[<-ae,<-hX]; simp[go_sem]
 have k1:W1.cell? ⟨X,1,none⟩=some (.slice A2 n2 c2):=by rw[<-ae,<-hX]; simp[go_sem]
 have k2:W1.cell? ⟨X,2,none⟩=some (.string s):=by rw[<-ae,<-hX]; simp[go_sem]
 have k3:W1.cell? ⟨X,3,none⟩=some (.int .i64 ty):=by rw[<-ae,<-hX]; simp[go_sem]
 have k4:W1.cell? ⟨X,4,none⟩=some (.int .i64 life):=by rw[<-ae,<-hX]; simp[go_sem]
 have k5:W1.cell? ⟨X,5,none⟩=some (.slice A3 n3 c3):=by rw[<-ae,<-hX]; simp[go_sem]
 have k6:W1.cell? ⟨X,6,none⟩=some (.slice A4 n4 c4):=by rw[<-ae,<-hX]; simp[go_sem]
 have k7:W1.cell? ⟨X,7,none⟩=some (.int .i64 drift):=by rw[<-ae,<-hX]; simp[go_sem]
 have k8:W1.cell? ⟨X,8,none⟩=some (.int .i64 stop):=by rw[<-ae,<-hX]; simp[go_sem]
 have kz:W1.cell? ⟨X+1,0,none⟩=some (.string z):=by rw[<-ae,<-hX]; simp[go_sem]
 have ka:W1.cell? ⟨X+1+1,0,none⟩=some (.int .i64 addr):=by rw[<-ae,<-hX]; simp[go_sem]
 have gN:=jq hR;rw[hX] at aw H3 H4 H5 H6 gS gN |-;have ay:=jq aw;clear aw hR;refine (callsIn_wide (n:=0)).1 ?_;refine callsIn_of_wp_marks func22 rfl trivial ?_ rfl;simp only[ntmps22,List.size_toArray,List.length_cons,List.length_nil,Nat.reduceAdd,Nat.reduceSub,Array.replicate_succ,Array.replicate_zero,List.push_toArray,List.append_toArray,List.nil_append,List.cons_append];gi_wp2_with fail;refine⟨trivial,rfl,?_⟩;refine (callsIn_wide.2 (Aa _ h cR.out W1 ((gN.out.keep ay.out).more (by omega)) (cM _ _ _ _ _ (cE _ _ _ _ _ gS.out ay.out) (by omega)))).mono ?_;rw[fi.out];rintro e w2 ⟨rfl,aa⟩;have aN:=aa.size;have m0:=(cl aa (by omega)).trans k0;have m1:=(cl aa (by omega)).trans k1;have m2:=(cl aa (by omega)).trans k2;have m3:=(cl aa (by omega)).trans k3;have m4:=(cl aa (by omega)).trans k4;have m5:=(cl aa (by omega)).trans k5;have m6:=(cl aa (by omega)).trans k6;have m7:=(cl aa (by omega)).trans k7;have m8:=(cl aa (by omega)).trans k8;have mz:=(cl aa (by omega)).trans kz;have ma:=(cl aa (by omega)).trans ka;have ak:=jq (ay.out.trans (aa.mono (by omega)));clear aa ae hX k0 k1 k2 k3 k4 k5 k6 k7 k8 kz ka
 cases r with
 | false=>
  have HN:Hid (¬ Np.VHist h):=jq (λh=>by have:=Np.bO h; rw[fi.out] at this; cases this);gi_wp2_with fail;refine⟨trivial,?_⟩;gi_wp2_with fail;exact nJ (v:=.tuple #[.slice none 0 0,.int .i64 1]) (by simp[results,results22,go_sem]) ⟨.inl ⟨.inl HN.out,rfl⟩,ak.out⟩
 | true=>
  have HV:Hid (Np.VHist h):=jq (Np.eE.1 fi.out);gi_wp2_with fail;refine⟨trivial,rfl,?_⟩;refine (callsIn_wide.2 (nameValid_any z hz _)).mono ?_;rintro e w3 ⟨rfl,ah⟩;have dP:=ah.size;replace m0:=(cl ah (by omega)).trans m0;replace m1:=(cl ah (by omega)).trans m1;replace m2:=(cl ah (by omega)).trans m2;replace m3:=(cl ah (by omega)).trans m3;replace m4:=(cl ah (by omega)).trans m4;replace m5:=(cl ah (by omega)).trans m5;replace m6:=(cl ah (by omega)).trans m6;replace m7:=(cl ah (by omega)).trans m7;replace m8:=(cl ah (by omega)).trans m8;replace mz:=(cl ah (by omega)).trans mz;replace ma:=(cl ah (by omega)).trans ma;have av:=jq (ak.out.trans (ah.mono (by omega)));clear ah
  cases bX:Np.aG z.data.toList with
  | false=>
   have dU:=jq bX;clear bX;gi_wp2_with fail;exact nJ (v:=.tuple #[.slice none 0 0,.int .i64 1]) (by simp[results,results22,go_sem]) ⟨.inl ⟨.inr dU.out,rfl⟩,av.out⟩
  | true=>
   have dU:=jq bX;have HMA:=jq ma;clear bX;have hX3:X+3<=w3.heap.size:=by omega
   gi_wp2_with fail;refine⟨trivial,rfl,?_⟩;refine (callsIn_wide.2 (Uc fF 69 WR #[.pointer (some ⟨X+1+1,0,none⟩)] (λx:Np.Host=>decide (x.addr=addr)) _ h.hosts w3 w3.heap.size (bQ _) ((H3.out.keep fF av.out).more jZ (by omega)) (λW x e0 e1 e2 _ hW zg hR=>by
    obtain⟨t,_,_,he⟩:=hR;simp only[List.cons.injEq,and_true] at he;obtain⟨rfl,rfl,rfl⟩:=he;exact Zj t _ _ (X+1+1) addr W (by omega) ((cl hW (by omega)).trans HMA.out)))).mono ?_
   rintro e w4 ⟨rfl,am⟩;have ga:=am.size;have n40:=(cl am (by omega)).trans m0;have n41:=(cl am (by omega)).trans m1;have n42:=(cl am (by omega)).trans m2;have n43:=(cl am (by omega)).trans m3;have n44:=(cl am (by omega)).trans m4;have n45:=(cl am (by omega)).trans m5;have n46:=(cl am (by omega)).trans m6;have n47:=(cl am (by omega)).trans m7;have n48:=(cl am (by omega)).trans m8;clear m0 m1 m2 m3 m4 m5 m6 m7 m8;have n4z:=(cl am (by omega)).trans mz;have bD:=jq (av.out.trans (am.mono (by omega)));clear am ma mz;obtain⟨kk,qV⟩:∃ kk,kP (λx:Np.Host=>decide (x.addr=addr)) h.hosts=kk:=⟨_,rfl⟩;have xk:Hid (Np.jL h.hosts addr=kk):=jq qV;rw[qV];clear qV;by_cases nS:kk<0
   ·have hd:decide (kk<0)=true:=uQ nS;have xC:=jq nS;clear nS;gi_wp2_with fail;exact nJ (v:=.tuple #[.slice none 0 0,.int .i64 4]) (by simp[results,results22,go_sem]) ⟨.inr ⟨HV.out,dU.out,.inl ⟨by rw[xk.out]; exact xC.out,rfl⟩⟩,bD.out.alloc (by omega) _⟩
   ·have hd:decide (kk<0)=false:=tQ nS;have xC:=jq nS;clear nS;obtain⟨Bh,sH⟩:∃ Bh,w4.heap.size=Bh:=⟨_,rfl⟩;obtain⟨w5,aX⟩:∃ w5,(w4.alloc (.cells #[.int .i64 kk] 3)).alloc (.cells #[.slice none 0 0] 46)=w5:=⟨_,rfl⟩;have aA:Below w4.heap.size w4 w5:=by rw[<-aX]; exact ((vQ _ _).alloc (bQ _) _).alloc (by simp) _
    have kF:w5.heap.size=Bh+2:=by rw[<-aX,<-sH]; simp
    have n50:=(cl aA (by omega)).trans n40;have n51:=(cl aA (by omega)).trans n41;have n52:=(cl aA (by omega)).trans n42;have n53:=(cl aA (by omega)).trans n43;have n54:=(cl aA (by omega)).trans n44;have n55:=(cl aA (by omega)).trans n45;have n56:=(cl aA (by omega)).trans n46;have n57:=(cl aA (by omega)).trans n47;have n58:=(cl aA (by omega)).trans n48;have n5z:=(cl aA (by omega)).trans n4z;have kh:w5.cell? ⟨Bh,0,none⟩=some (.int .i64 kk):=by rw[<-aX,<-sH]; simp[go_sem]
    have dI:Hid (Boxed w5 (Bh+1) 46 (.slice none 0 0)):=jq (by rw[<-aX,<-sH]; have:=Boxed.new (w4.alloc (.cells #[.int .i64 kk] 3)) 46 (.slice none 0 0); simpa using this);have ca:=jq (bD.out.trans (aA.mono (by omega)));clear aA n40 n41 n42 n43 n44 n45 n46 n47 n48 n4z;gi_wp2_with fail;refine⟨trivial,rfl,?_⟩;refine (callsIn_wide.2 (GN _ _ _ _ _ _ _ _ _ 70 #[.pointer (some ⟨Bh,0,none⟩),.pointer (some ⟨X+1,0,none⟩)] w5)).mono ?_;rintro e w6 ⟨rfl,cr⟩;have gP:w6.heap.size=Bh+4:=by rw[cr]; simp; omega
    have aW:Below w5.heap.size w5 w6:=by rw[cr]; exact ((vQ _ _).alloc (bQ _) _).alloc (by simp) _
    have kX:w6.cell? ⟨Bh+2,1,none⟩=some (.slice A2 n2 c2):=by rw[cr,<-kF]; simp[go_sem]
    have kO:w6.cell? ⟨Bh+2+1,0,none⟩=some (.func (.func 70) #[] #[.pointer (some ⟨Bh,0,none⟩),.pointer (some ⟨X+1,0,none⟩)]):=by rw[cr,show Bh+2+1=w5.heap.size+1 by omega]; simp[go_sem]
    rw[kF];obtain⟨L,iH,pL,pg⟩:=Ih (H4.out.keep fk (ca.out.trans (aW.mono (by omega))));have wV:=jq ((cl aW (by omega)).trans n5z);have HKH:=jq ((cl aW (by omega)).trans kh);have CG:=jq (Gy L (λx=>decide (x.1.host=kk)&&(x.1.str.data.toList == z.data.toList)) 70 #[.pointer (some ⟨Bh,0,none⟩),.pointer (some ⟨X+1,0,none⟩)] (Bh+2) (Bh+2+1) n2 c2 (λk=>k<w6.heap.size/\k≠Bh+1) A2 w6 ⟨by omega,by omega⟩ ⟨by omega,by omega⟩ kX kO pL (by have:=cR.out.1; have:=iA.out; omega)
     (λi x hx=>by
       obtain⟨_,b,o,h1,h2,h3⟩:=pg i x hx;exact⟨b,o,h1,⟨by omega,by omega⟩,h3⟩) WQ
     (λx hx W hW=>by
       have h1:=(hW.cell (p:=⟨X+1,0,none⟩) ⟨by dsimp only; omega,by dsimp only; omega⟩).trans wV.out;have h2:=(hW.cell (p:=⟨Bh,0,none⟩) ⟨by dsimp only; omega,by dsimp only; omega⟩).trans HKH.out
       have:=hW.1
       exact Zi x.1.host x.1.frm x.1.til x.1.str _ x.1.A x.1.n x.1.c rfl Bh (X+1) kk z W (by omega) (by omega) h2 h1))
    have Ks:Hid (Boxed w6 (Bh+1) 46 (.slice none 0 0)):=jq (fC dI.out aW (by omega));have cY:=jq (ca.out.trans (aW.mono (by omega)));have l9:=jq iH;have CU:=jq pg;have oS:Hid (∀ x∈L,CVOf w6 X x.1 x.2):=jq (λx hx=>by obtain⟨i,hi⟩:=List.mem_iff_getElem?.1 hx; exact (pg i x hi).1);clear aW cr aX kX kO iH pg n5z kh n50 n51 n52 n53 n54 n55 n56 n57 n58;have RV:=jq gP;gi_wp2_with fail;refine Gk (Dr:=λk=>k<w6.heap.size/\k≠Bh+1) (w0:=w6) (first:=#[]) (captured:=#[.pointer (some ⟨Bh+2,0,none⟩),.pointer (some ⟨Bh+2+1,0,none⟩)]) (gf:=91) rfl Gx (mk:=λy=>#[y,.pointer (some ⟨Bh+2,0,none⟩),.pointer (some ⟨Bh+2+1,0,none⟩)]) (λ_=>rfl)
     CG.out (gt.refl λk e=>e.1) (λ_=>rfl) (Iv w6 (Bh+1)) (λ_ _ _ _=>False)
     (My _ _ _ (by omega) (by omega)) (λc s S W W' h _=>h)
     (λk=>k=Bh+1) (λk h1 h2=>h2.2 h1) (by intro k h; omega)
     ⟨_,λk=>by simp[Value.ownBlock],Ks.out,aI.nil _ _,vQ _ _⟩ ?round ?done ?stop
    case stop=>
     rintro D c pre S W hD g9 bM jf h hK;exact h.elim
    case round=>
     rintro l0 pre ⟨⟨xh,xf,xt,xs,xA,xn,xc⟩,cc⟩ S W cC hI gk;have lu:pre.length<=500:=by
      have h1:=cC.length_le;have h2:=List.length_filter_le (λx:CV×Np.Copy=>decide (x.1.host=kk)&&(x.1.str.data.toList == z.data.toList)) L;have h3:=cR.out.1;have h4:=iA.out;rw[List.length_append,List.length_singleton] at h1;omega
     have mp:Iv w6 (Bh+1) pre S (W.alloc (.cells #[.int .i64 xh,.int .i64 xf,.int .i64 xt,.string xs,.slice xA xn xc] 58)):=by
      obtain⟨v,hS,eF,hown,hB⟩:=hI;exact⟨v,hS,eF.alloc _,hown.alloc _,hB.alloc (by have:=hB.size; omega) _⟩
     have zg:w6.heap.size<=W.heap.size:=by obtain⟨v,_,_,_,hB⟩:=hI; exact hB.size
     have JP:=jq cC;have jD:=jq lu;clear hI cC lu;gi_wp2;refine⟨λk=>S k\/k=W.heap.size,(RdStep.refl S W).alloc _,λk e=>e.imp id (λh=>by omega),λk e=>by rcases e with e | e; have:=gk k e; simp; omega; simp; omega,?_⟩;intro l W₂ aB;obtain⟨v,hS,eF,hown,hB⟩:=My w6 (Bh+1) w6.heap.size (by omega) (by omega) pre S _ W₂ mp (aB.weaken (bQ _) (λk e=>.inl e));have lk:=aB.size;simp only[World.size_alloc] at lk;have dX:W₂.heap[W.heap.size]?=some (.cells #[.int .i64 xh,.int .i64 xf,.int .i64 xt,.string xs,.slice xA xn xc] 58):=(aB.keep W.heap.size (by simp) (.inr (.inr rfl))).trans (heap_alloc_new _ _);have cc1:W₂.cell? ⟨W.heap.size,1,none⟩=some (.int .i64 xf):=by simp[World.cell?,dX]
     have cc2:W₂.cell? ⟨W.heap.size,2,none⟩=some (.int .i64 xt):=by simp[World.cell?,dX]
     have nr:∀ k,S k->k<W₂.heap.size:=λk e=>by have:=gk k e; omega
     have ra:∀ g,v.ownBlock=some g->Bh+1+1<=g/\g<W₂.heap.size:=λg hg=>hown.lt g hg;obtain⟨vA,vc,rfl⟩:=hown.form;obtain⟨m,hm⟩:∃ m,(pre.map λx:CV×Np.Copy=>(⟨x.1.frm,x.1.til⟩:Np.Span)).length=m:=⟨_,rfl⟩;have mF:m<=500:=by rw[<-hm,List.length_map]; exact jD.out
     rw[hm] at eF ra hS hown;have bc:=eF.cell;have bf:=eF.frozen;have yT:=jq eF;have CE:=jq hown;have HM:=jq hm;have Ra:=jq ra;have mr:=jq hS;have HB:=jq hB;have QT:=jq mp;have q9:=jq nr;obtain⟨w7,gb⟩:∃ w7,W₂.alloc (.cells #[.int .i64 xf,.int .i64 xt] 114)=w7:=⟨_,rfl⟩;have eD:Below W₂.heap.size W₂ w7:=by rw[<-gb]; exact (vQ _ _).alloc (bQ _) _
     have lM:w7.heap.size=W₂.heap.size+1:=by rw[<-gb]; simp
     have d0:w7.cell? ⟨W₂.heap.size,0,none⟩=some (.int .i64 xf):=by rw[<-gb]; simp[go_sem]
     have d1:w7.cell? ⟨W₂.heap.size,1,none⟩=some (.int .i64 xt):=by rw[<-gb]; simp[go_sem]
     have dN:=jq eD;have HR7:Hid (RdStep (λk=>S k\/k=W.heap.size) W₂ w7):=jq (RdStep.of_below eD);have hXW:X<W₂.heap.size:=by omega
     clear hm eF hown ra hS hB mp nr eD aB dX gk;gi_wp2_with (first
      | (gi_at_builtin; refine LY rfl (by intro c h; cases h) (by rintro⟨_,_,h⟩; exact h) ?_; refine LL w7 rfl _ _ rfl (Bh+1+1) _ _ rfl (CE.out.keep dN.out) W₂.heap.size xf xt rfl d0 d1 (by rw[HM.out]; omega) (by omega) ?_; intro v8 w8 eh cJ iP; obtain⟨A8,c8,rfl⟩:=aI.formN eh (n:=m+1) (by have:=HM.out; simp at this |-; omega); have H8:=jq (And.intro eh (And.intro cJ iP)); have og:=cJ.size; have EY:=((cJ.block (Bh+1) (by omega) (λe=>by have:=(Ra.out _ e.symm).1; omega)).trans (dN.out.block (Bh+1) (by omega))).trans yT.out; have aoK:Hid (Boxed w8 (Bh+1) 46 (.slice vA m vc)):=jq EY; have bc8:w8.cell? ⟨Bh+1,0,none⟩=some (.slice vA m vc):=Boxed.cell EY; have bf8:w8.frozen? ⟨Bh+1,0,none⟩=false:=Boxed.frozen EY; clear eh cJ iP EY; refine M8 ?_))
     have IQ:∀ k,(Value.slice A8 (m+1) c8).ownBlock=some k->(Value.slice vA m vc).ownBlock=some k\/w7.heap.size=k:=λk e=>by
      rcases H8.out.2.2 with h | h
      ·exact .inl (h ▸ e)
      ·rw[h] at e; exact .inr (Option.some.inj e)
     refine⟨λk=>k=Bh+1\/(Value.slice A8 (m+1) c8).ownBlock=some k,(HR7.out.grown H8.out.2.1 (λk e=>.inl (.inl ((mr.out k).2 (.inr e))))).setCell (.inl (.inl ((mr.out _).2 (.inl rfl)))) _,λk e=>?_,λk e=>?_,?_⟩
     ·rcases e with e | e
      ·exact .inl (.inl ((mr.out _).2 (.inl e)))
      ·rcases IQ k e with e | e
       ·exact .inl (.inl ((mr.out _).2 (.inr e)))
       ·right; omega
     ·have:=og
      simp[World.setCell];rcases e with e | e
      ·omega
      ·have:=(H8.out.1.lt k e).2; omega
     ·refine⟨_,λk=>Iff.rfl,Boxed.set _ aoK.out,?_,?_⟩
      ·rw[List.map_append];exact ownsRow_setCell_below H8.out.1 (by dsimp only; omega) _
      ·exact ((HB.out.trans ((dN.out.mono (by omega)))).trans ((vQ _ _).grown H8.out.2.1 (by omega) (λg hg=>by have:=(Ra.out g hg).1; omega))).setCell (by dsimp only; omega) _
    case done=>
     rintro D S W hD g9 bM ⟨v,hS,eF,hown,hB⟩ hK;obtain⟨sv,aL⟩:∃ sv,((L.filter λx=>decide (x.1.host=kk)&&(x.1.str.data.toList == z.data.toList)).map λx:CV×Np.Copy=>(⟨x.1.frm,x.1.til⟩:Np.Span))=sv:=⟨_,rfl⟩;have ky:Hid (gI h.copies z.data.toList kk=sv):=jq (by
      rw[<-aL,<-l9.out];exact V8 oS.out z.data.toList kk)
     rw[aL] at hown;have eM:sv.length<=500:=by
      rw[<-ky.out]
      have:=ME h.copies z.data.toList kk
      have:=cR.out.1
      omega
     have nh:Hid (∀ s∈sv,Np.El s):=jq (λs hs=>by
      rw[<-ky.out] at hs;obtain⟨c,hc,rfl⟩:=List.mem_map.1 hs;have h1:=(HV.out.each c (List.mem_filter.1 hc).1).times;have h2:=HV.out.stop;exact⟨h1.1,h1.2.1,by show c.til<=20000000; omega⟩)
     clear aL;obtain⟨vA,vc,rfl⟩:=hown.form;obtain⟨m,hm⟩:∃ m,sv.length=m:=⟨_,rfl⟩;have gY:=jq hown;have bc:=eF.cell;have oT:=hB.size;have dE:=jq hB;rw[hm] at bc gY;have HM:=jq hm;clear hown eF hB hm;gi_wp2_with fail;refine⟨trivial,rfl,?_⟩;refine (callsIn_wide.2 (Nr _ sv (by omega) nh.out W (gY.out.slr (by omega)))).mono ?_;rintro e w9 ⟨v9,rfl,FW,dY⟩;have hK9:=(dY.block D (eQ.1 hK).1).trans hK;have tc:=dY.size;have HN9:Hid (SlR cV 2 w9 w9.heap.size v9 (Np.bq sv)):=jq (FW.slr (by have:=qv sv; omega));have pq:Hid (∀ g,v9.ownBlock=some g->W.heap.size<=g):=jq (λg hg=>(FW.lt g hg).1);have HO9:=jq FW;have fX:=jq (cY.out.trans ((dE.out.mono (by omega)).trans (dY.mono (by omega))));have wu:Hid (D<W.heap.size):=jq (eQ.1 hK).1;clear FW dY hK;gi_wp2_with fail;refine pI hK9 (v:=.tuple #[v9,.int .i64 0]) (by simp[results,results22,go_sem]) ⟨.inr ⟨HV.out,dU.out,.inr ⟨by rw[xk.out]; exact xC.out,_,rfl,?_⟩⟩,py fX.out (by omega) _⟩;have h9:aI W.heap.size (w9.putObj D (.deferred none)) v9 (Np.bq sv):=fL HO9.out (λg hg=>zQ (by have:=pq.out g hg; have:=wu.out; omega));have mS:aI X (w9.putObj D (.deferred none)) v9 (Np.bq sv):=h9.weak (by omega);rw[xk.out];have uL:Np.qy h.copies z.data.toList kk=Np.bq sv:=by rw[<-ky.out]; rfl
     rw[uL];exact mS
end
section
open Go.RowKit
theorem GH(e1 e2:List Value)(x:Np.WorldP)(w:World)(hu:lw w w.heap.size e1 x)(hv:lw w w.heap.size e2 x) :
 Calls prog 18 #[.agg e1.toArray,.agg e2.toArray] w λe w'=>e = .returned (.bool true)/\Below w.heap.size w w':=by
 obtain⟨JD,zv1,s,dv1,iv1,rfl,aZ,_,h1,z1,d1,i1⟩:=hu;obtain⟨qW,zv2,s2,dv2,iv2,rfl,b7,_,h2,z2,d2,i2⟩:=hv;obtain rfl:s2=s:=iV (by rw[aZ,b7]);obtain⟨hosts,zones,⟨name,ty,life,data⟩,hints⟩:=x;dsimp only at h1 z1 d1 i1 h2 z2 d2 i2 aZ b7 |-;have H1:=jq h1;have Z1:=jq z1;have D1:=jq d1;have I1:=jq i1;have H2:=jq h2;have Z2:=jq z2;have D2:=jq d2;have I2:=jq i2;obtain⟨A1a,c1a,rfl,_,iH⟩:=ag h1;obtain⟨A1b,c1b,rfl,_,_⟩:=ag h2;obtain⟨A2a,c2a,rfl,_,_⟩:=ag z1;obtain⟨A2b,c2b,rfl,_,_⟩:=ag z2;obtain⟨A3a,c3a,rfl,_,_⟩:=ag d1;obtain⟨A3b,c3b,rfl,_,_⟩:=ag d2;obtain⟨A4a,c4a,rfl,_,hL4⟩:=ag i1;obtain⟨A4b,c4b,rfl,_,_⟩:=ag i2;clear h1 h2 z1 z2 d1 d2 i1 i2 aZ b7;obtain⟨n1,aJ⟩:∃ n,hosts.length=n:=⟨_,rfl⟩;obtain⟨n2,aK⟩:∃ n,zones.length=n:=⟨_,rfl⟩;obtain⟨n3,bk⟩:∃ n,data.length=n:=⟨_,rfl⟩;obtain⟨n4,bl⟩:∃ n,hints.length=n:=⟨_,rfl⟩;rw[aJ] at H1 H2;rw[aK] at Z1 Z2;rw[bk] at D1 D2;rw[bl] at I1 I2;rw[aJ,aK,bk,bl];rw[aJ] at iH;rw[bl] at hL4;have ix:=jq aJ;have sD:=jq bl;clear aJ aK bk bl;have KR:((n1:Int) != (n1:Int))=false:=by simp
 have hm4:((n4:Int) != (n4:Int))=false:=by simp
 obtain⟨X,hX⟩:∃ X,w.heap.size=X:=⟨_,rfl⟩;obtain⟨Y,hY⟩:∃ Y,X+1=Y:=⟨_,rfl⟩;obtain⟨W1,ae⟩:∃ W1,(w.alloc (.cells #[.slice A1a n1 c1a,.slice A2a n2 c2a,.string s2,.int .i64 ty,.int .i64 life,.slice A3a n3 c3a,.slice A4a n4 c4a] 34)).alloc (.cells #[.slice A1b n1 c1b,.slice A2b n2 c2b,.string s2,.int .i64 ty,.int .i64 life,.slice A3b n3 c3b,.slice A4b n4 c4b] 34)=W1:=⟨_,rfl⟩;have aw:Below w.heap.size w W1:=by rw[<-ae]; exact ((vQ _ _).alloc (bQ _) _).alloc (by simp) _
 have eG:W1.heap.size=w.heap.size+2:=by rw[<-ae]; simp
 have k0:W1.cell? ⟨X,0,none⟩=some (.slice A1a n1 c1a):=by rw[<-ae,<-hX]; simp[go_sem]
 have k1:W1.cell? ⟨X,1,none⟩=some (.slice A2a n2 c2a):=by rw[<-ae,<-hX]; simp[go_sem]
 have k2:W1.cell? ⟨X,2,none⟩=some (.string s2):=by rw[<-ae,<-hX]; simp[go_sem]
 have k3:W1.cell? ⟨X,3,none⟩=some (.int .i64 ty):=by rw[<-ae,<-hX]; simp[go_sem]
 have k4:W1.cell? ⟨X,4,none⟩=some (.int .i64 life):=by rw[<-ae,<-hX]; simp[go_sem]
 have k5:W1.cell? ⟨X,5,none⟩=some (.slice A3a n3 c3a):=by rw[<-ae,<-hX]; simp[go_sem]
 have k6:W1.cell? ⟨X,6,none⟩=some (.slice A4a n4 c4a):=by rw[<-ae,<-hX]; simp[go_sem]
 have j0:W1.cell? ⟨Y,0,none⟩=some (.slice A1b n1 c1b):=by rw[<-ae,<-hY,<-hX]; simp[go_sem]
 have j1:W1.cell? ⟨Y,1,none⟩=some (.slice A2b n2 c2b):=by rw[<-ae,<-hY,<-hX]; simp[go_sem]
 have j2:W1.cell? ⟨Y,2,none⟩=some (.string s2):=by rw[<-ae,<-hY,<-hX]; simp[go_sem]
 have j3:W1.cell? ⟨Y,3,none⟩=some (.int .i64 ty):=by rw[<-ae,<-hY,<-hX]; simp[go_sem]
 have j4:W1.cell? ⟨Y,4,none⟩=some (.int .i64 life):=by rw[<-ae,<-hY,<-hX]; simp[go_sem]
 have j5:W1.cell? ⟨Y,5,none⟩=some (.slice A3b n3 c3b):=by rw[<-ae,<-hY,<-hX]; simp[go_sem]
 have j6:W1.cell? ⟨Y,6,none⟩=some (.slice A4b n4 c4b):=by rw[<-ae,<-hY,<-hX]; simp[go_sem]
 rw[hX] at aw eG H1 H2 Z1 Z2 D1 D2 I1 I2 |-;have ay:=jq aw;clear aw;go_enter func18,ntmps18;go_wp2_with fail;refine (MG _ _ zones _ ((Z1.out.keep ig ay.out).more gT (by omega)) ((Z2.out.keep ig ay.out).more gT (by omega))).mono ?_;rintro e w2 ⟨rfl,aa⟩;have aN:=aa.size;replace k0:=(cl aa (by omega)).trans k0;replace k1:=(cl aa (by omega)).trans k1;replace k2:=(cl aa (by omega)).trans k2;replace k3:=(cl aa (by omega)).trans k3;replace k4:=(cl aa (by omega)).trans k4;replace k5:=(cl aa (by omega)).trans k5;replace k6:=(cl aa (by omega)).trans k6;replace j0:=(cl aa (by omega)).trans j0;replace j1:=(cl aa (by omega)).trans j1;replace j2:=(cl aa (by omega)).trans j2;replace j3:=(cl aa (by omega)).trans j3;replace j4:=(cl aa (by omega)).trans j4;replace j5:=(cl aa (by omega)).trans j5;replace j6:=(cl aa (by omega)).trans j6;have ak:=jq (ay.out.trans (aa.mono (by omega)));clear aa ae hX;go_wp2_with fail;refine (MF s2 s2 ty life ty life _ _ data data _ ((D1.out.keep cL ak.out).more dp (by omega)) ((D2.out.keep cL ak.out).more dp (by omega))).mono ?_;have Sv:decide (s2=s2/\ty=ty/\life=life/\data=data)=true:=by simp
 rw[Sv];rintro e w3 ⟨rfl,ah⟩;have dP:=ah.size;replace k0:=(cl ah (by omega)).trans k0;replace k1:=(cl ah (by omega)).trans k1;replace k2:=(cl ah (by omega)).trans k2;replace k3:=(cl ah (by omega)).trans k3;replace k4:=(cl ah (by omega)).trans k4;replace k5:=(cl ah (by omega)).trans k5;replace k6:=(cl ah (by omega)).trans k6;replace j0:=(cl ah (by omega)).trans j0;replace j1:=(cl ah (by omega)).trans j1;replace j2:=(cl ah (by omega)).trans j2;replace j3:=(cl ah (by omega)).trans j3;replace j4:=(cl ah (by omega)).trans j4;replace j5:=(cl ah (by omega)).trans j5;replace j6:=(cl ah (by omega)).trans j6;have av:=jq (ak.out.trans (ah.mono (by omega)));clear ah Sv;go_wp2_with fail;go_loopw [5] (λi wr=>∃ (k:Nat),k<=n1/\i = .int .i64 k/\Hid (Below w3.heap.size w3 wr)) (λi _=>n1 - (intOf i).toNat)
 case atStart=>exact⟨0,jQ _,rfl,jq (vQ _ _)⟩
 case round=>
  obtain⟨k,hk,rfl,aO⟩:=hrel;have an:=aO.out.size;have HB:=jq (av.out.trans (aO.out.mono (by omega)));have a0:=(cl aO.out (by omega)).trans k0;have b0:=(cl aO.out (by omega)).trans j0;by_cases ab:k<n1
  ·obtain⟨x,hx⟩:∃ x,hosts[k]?=some x:=⟨_,aQ (by rw[ix.out]; exact ab)⟩;obtain⟨b,o,t,rfl,bg,ht,_,f0,f1,f2⟩:=tH (H1.out.keep fF HB.out) hx;obtain⟨b',o',t',rfl,xP,ht',_,g0,g1,g2⟩:=tH (H2.out.keep fF HB.out) hx;obtain rfl:t'=t:=iV (by rw[ht,ht']);have bW:(0:Int)<=(k:Int):=by omega
   have bV:(k:Int)<(n1:Int):=by omega
   have uJ:∀ w,(binOp .neq 64 (.agg #[.string t',.int .i64 x.addr,.int .i64 x.owner]) (.agg #[.string t',.int .i64 x.addr,.int .i64 x.owner])).run prog w = .ok (.bool false) w:=λw=>by rw[YS]; simp
   clear hx ht ht';go_wp2_with fail;go_quiet (fail);go_wp2_with fail;go_roundw
   case rel=>exact⟨k+1,by omega,by go_num,jq (below_drewN aO.out _)⟩
   case measure=>simp[intOf] <;> omega
  ·clear hk;go_wp2_with fail;obtain⟨wo,rfl⟩:∃ wo,wo=wr:=⟨_,rfl⟩;have hXY:X+2<=wo.heap.size:=by omega
   clear k0 j0;have k6':=(cl aO.out (by omega)).trans k6;have j6':=(cl aO.out (by omega)).trans j6;clear ab;go_loopw [6] (λi wr=>∃ (k:Nat),k<=n4/\i = .int .i64 k/\Hid (Below wo.heap.size wo wr)) (λi _=>n4 - (intOf i).toNat)
   case atStart=>exact⟨0,jQ _,rfl,jq (vQ _ _)⟩
   case round=>
    obtain⟨q,hq,rfl,lS⟩:=hrel;have lk:=lS.out.size;have blZ:X+2<=wr.heap.size:=by omega
    have HC:=jq (HB.out.trans (lS.out.mono (by omega)));have a3:=(cl lS.out (by omega)).trans k6';have b3:=(cl lS.out (by omega)).trans j6';by_cases qU:q<n4
    ·obtain⟨x,hx⟩:∃ x,hints[q]?=some x:=⟨_,aQ (by rw[sD.out]; exact qU)⟩;obtain⟨b,o,rfl,bg,f0⟩:=If (I1.out.keep iU HC.out) hx;obtain⟨b',o',rfl,xP,g0⟩:=If (I2.out.keep iU HC.out) hx;have bW:(0:Int)<=(q:Int):=by omega
     have bV:(q:Int)<(n4:Int):=by omega
     have hxx:(x != x)=false:=by simp
     clear hx;go_wp2_with fail;go_quiet (fail);go_wp2_with fail;go_roundw
     case rel=>exact⟨q+1,by omega,by go_num,jq (below_drewN lS.out _)⟩
     case measure=>simp[intOf] <;> omega
    ·go_wp2_with fail;go_ret;exact⟨rfl,HC.out⟩
noncomputable def Np.fw(h:Np.Hist)(z:List UInt8):Int×List Np.Held:=if Np.yes (Np.km h z) then (if Np.yes (Np.lD h z) then (0,Np.pub h.copies z) else (4,[])) else (1,[])
noncomputable def Np.ju(h:Np.Hist)(z:List UInt8)(addr:Int):Int×List Np.Span:=if Np.yes (Np.km h z) then (if Np.jL h.hosts addr<0 then (4,[]) else (0,Np.qy h.copies z (Np.jL h.hosts addr))) else (1,[])
noncomputable def Np.mN(h:Np.Hist):Int×List (List UInt8):=if Np.yes (Np.VHist h) then (0,Np.apexes h.copies) else (1,[])
theorem Np.yk{h:Np.Hist}{z:List UInt8}(k:¬ Np.km h z):Np.fw h z=(1,[]):=by unfold Np.fw; rw[Np.aP k]; rfl
theorem Np.tz{h:Np.Hist}{z:List UInt8}(k:Np.km h z)(k2:¬ Np.lD h z):Np.fw h z=(4,[]):=by unfold Np.fw; rw[Np.bO k,Np.aP k2]; rfl
theorem Np.vg{h:Np.Hist}{z:List UInt8}(k:Np.km h z)(k2:Np.lD h z):Np.fw h z=(0,Np.pub h.copies z):=by unfold Np.fw; rw[Np.bO k,Np.bO k2]; rfl
theorem Np.Hv{h:Np.Hist}(k:Np.VHist h):Np.mN h=(0,Np.apexes h.copies):=by unfold Np.mN; rw[Np.bO k]; rfl
theorem Np.Ol{h:Np.Hist}(k:¬ Np.VHist h):Np.mN h=(1,[]):=by unfold Np.mN; rw[Np.aP k]; rfl
theorem Np.Ou{h:Np.Hist}{z:List UInt8}{a:Int}(k:¬ Np.km h z):Np.ju h z a=(1,[]):=by unfold Np.ju; rw[Np.aP k]; rfl
theorem Np.yo{h:Np.Hist}{z:List UInt8}{a:Int}(k:Np.km h z):Np.ju h z a=if Np.jL h.hosts a<0 then (4,[]) else (0,Np.qy h.copies z (Np.jL h.hosts a)):=by unfold Np.ju; rw[Np.bO k]; rfl
structure jT(w:World)(e:List Value)(h:Np.Hist):Prop where
 rh:bw w w.heap.size e h
 use:Np.Use h
 sums:Np.lA h
theorem jT.keep{w w':World}{e:List Value}{h:Np.Hist}(k:jT w e h)(hb:Below w.heap.size w w'):jT w' e h:=
 ⟨cM _ _ _ _ _ (cE _ _ _ _ _ k.rh hb) hb.size,k.use,k.sums⟩
structure je(n:Nat)(w:World):Prop where
 rules:iW w n
 pow:iX w
 lt:2<n
theorem je.keep{n:Nat}{w w':World}(k:je n w)(hb:Below n w w'):je n w':=⟨k.rules.keep hb,k.pow.keepAt hb k.lt,k.lt⟩
theorem je.more{n m:Nat}{w:World}(k:je n w)(h:n<=m):je m w:=⟨k.rules.more h,k.pow,lQ k.lt h⟩
theorem je.next{w w':World}(k:je w.heap.size w)(hb:Below w.heap.size w w'):je w'.heap.size w':=(k.keep hb).more hb.size
theorem Ni(l:List Np.Copy)(z:List UInt8)(k:Int):(Np.qy l z k).length<=l.length:=by
 unfold Np.qy;refine yQ (qv _) ?_;rw[List.length_map];exact List.length_filter_le _ _
theorem Mt{h:Np.Hist}(v:Np.VHist h):∀ x∈Np.apexes h.copies,x.length<=140737488355328:=λx hx=>by
 obtain⟨c,hc,rfl⟩:=Np.Dv.1 hx;have h1:=(Np.GR (v.each c hc).zone).1
 have:=(Np.yf h1).1
 omega
theorem NF(l:List Np.Copy):(Np.apexes l).length<=l.length:=by
 unfold Np.apexes;rw[(Np.GE _).length_eq]
 have:=Np.vq (l.map (·.zone.apex))
 rwa [List.length_map] at this
theorem aI.around{base n:Nat}{w:World}{v:Value}{ps:List Np.Span}(h:aI base w v ps)(hn:n<=base)(hl:ps.length<=140737488355328):fP cV 2 0 n w v ps:=λM hM=>by
 have h1:aI base (bp w M) v ps:=fL h (λg hg=>j9 (λe=>by have:=hM g e; have:=(World.ownsRow.lt h g hg).1; omega));have h2:=h1.slr hl;rwa [gH] at h2
theorem cB.around{base n:Nat}{w:World}{v:Value}{ps:List (List UInt8)}(h:cB base w v ps)(hn:n<=base)(hl:ps.length<=140737488355328)(hs:∀ x∈ps,x.length<=140737488355328):fP RTx 1 0 n w v ps:=λM hM=>by
 have h1:cB base (bp w M) v ps:=fL h (λg hg=>j9 (λe=>by have:=hM g e; have:=(World.ownsRow.lt h g hg).1; omega));have h2:=h1.slr hl hs;rwa [gH] at h2
structure WAt(n:Nat)(w:World)(e:List Value)(x:Np.WorldP)(A1:Option Addr)(n1 c1:Nat)(A2:Option Addr)(n2 c2:Nat)(s:ByteArray)(ty lf:Int)(A3:Option Addr)(n3 c3:Nat)(A4:Option Addr)(n4 c4:Nat):Prop where
 val:e = [.slice A1 n1 c1,.slice A2 n2 c2,.string s,.int .i64 ty,.int .i64 lf,.slice A3 n3 c3,.slice A4 n4 c4]
 all:lw w w.heap.size e x
 zones:fP il 3 0 n w (.slice A2 n2 c2) x.zones
 len:x.zones.length=n2
theorem Z3{n:Nat}{w:World}{e:List Value}{x:Np.WorldP}(h:AL lw 0 n w e x):∃ A1 n1 c1 A2 n2 c2 s ty lf A3 n3 c3 A4 n4 c4,WAt n w e x A1 n1 c1 A2 n2 c2 s ty lf A3 n3 c3 A4 n4 c4:=by
 have h0:=h.all Di;have h0':=h0;obtain⟨hv,zv,s,dv,cj,rfl,_,_,h1,h2,h3,h4⟩:=h0';obtain⟨A1,c1,rfl,_⟩:=ag h1;obtain⟨A2,c2,rfl,_⟩:=ag h2;obtain⟨A3,c3,rfl,_⟩:=ag h3;obtain⟨A4,c4,rfl,_⟩:=ag h4;refine⟨A1,_,c1,A2,_,c2,s,_,_,A3,_,c3,A4,_,c4,rfl,h0,λM hM=>?_,rfl⟩;obtain⟨qW,zv2,s2,dv2,bdX,he,_,_,_,hz,_,_⟩:=h M hM;simp only[List.cons.injEq] at he;rw[he.2.1];exact hz
theorem WAt.keep{n:Nat}{w w':World}{e:List Value}{x:Np.WorldP}{A1:Option Addr}{n1 c1:Nat}{A2:Option Addr}{n2 c2:Nat}{s:ByteArray}{ty lf:Int}{A3:Option Addr}{n3 c3:Nat}{A4:Option Addr}{n4 c4:Nat}(h:WAt n w e x A1 n1 c1 A2 n2 c2 s ty lf A3 n3 c3 A4 n4 c4)(hb:Below w.heap.size w w'):WAt n w' e x A1 n1 c1 A2 n2 c2 s ty lf A3 n3 c3 A4 n4 c4:=
 ⟨h.val,zV _ _ _ _ _ (zW _ _ _ _ _ h.all hb) hb.size,h.zones.keep ig gT hb,h.len⟩
theorem cAt(e:List Value)(h:Np.Hist)(t:Int)(w:World)(hV:je w.heap.size w)(k:jT w e h) :
 Calls prog 12 #[.agg e.toArray,.int .i64 t] w λe w'=>∃ A1 n1 c1 A2 n2 c2 s ty lf A3 n3 c3 A4 n4 c4,e = .returned (.tuple #[.agg #[.slice A1 n1 c1,.slice A2 n2 c2,.string s,.int .i64 ty,.int .i64 lf,.slice A3 n3 c3,.slice A4 n4 c4],.int .i64 (Np.atE h t)])/\WAt w.heap.size w' [.slice A1 n1 c1,.slice A2 n2 c2,.string s,.int .i64 ty,.int .i64 lf,.slice A3 n3 c3,.slice A4 n4 c4] (Np.atW h t) A1 n1 c1 A2 n2 c2 s ty lf A3 n3 c3 A4 n4 c4/\Below w.heap.size w w':=
 (abJ e h k.use.fewH k.use.big k.use.sets t w hV.rules k.rh).mono λe w' ⟨e',h1,h2,h3⟩=>by
   obtain⟨A1,n1,c1,A2,n2,c2,s,ty,lf,A3,n3,c3,A4,n4,c4,h4⟩:=Z3 h2;obtain rfl:=h4.val;exact⟨A1,n1,c1,A2,n2,c2,s,ty,lf,A3,n3,c3,A4,n4,c4,h1,h4,h3⟩
theorem AS(e:List Value)(h:Np.Hist)(z:ByteArray)(hz:z.size<=140737488355328)(w:World)(hV:je w.heap.size w)(k:jT w e h) :
 Calls prog 20 #[.agg e.toArray,.string z] w λe w'=>∃ A n c,e = .returned (.tuple #[.slice A n c,.int .i64 (Np.fw h z.data.toList).1])/\(Np.fw h z.data.toList).2.length=n/\fP fS 8 0 w.heap.size w' (.slice A n c) (Np.fw h z.data.toList).2/\Below w.heap.size w w':=
 (T8 e h k.use.fewH k.sums z hz (k.use.pairs _) w hV.rules hV.pow k.rh).mono λe w' ⟨h1,h2⟩=>by
   rcases h1 with ⟨n1,rfl⟩ | ⟨n1,⟨n2,rfl⟩ | ⟨n2,v',rfl,h3⟩⟩
   ·rw[Np.yk n1]; exact⟨_,_,_,rfl,rfl,fP.nil _ _ _ _,h2⟩
   ·rw[Np.tz n1 n2]; exact⟨_,_,_,rfl,rfl,fP.nil _ _ _ _,h2⟩
   ·rw[Np.vg n1 n2];obtain⟨A,c,rfl⟩:=h3.form;exact⟨_,_,_,rfl,rfl,h3,h2⟩
theorem Iu(e:List Value)(h:Np.Hist)(z:ByteArray)(hz:z.size<=140737488355328)(addr:Int)(w:World)(hV:je w.heap.size w)(k:jT w e h) :
 Calls prog 22 #[.agg e.toArray,.string z,.int .i64 addr] w λe w'=>∃ A n c,e = .returned (.tuple #[.slice A n c,.int .i64 (Np.ju h z.data.toList addr).1])/\(Np.ju h z.data.toList addr).2.length=n/\fP cV 2 0 w.heap.size w' (.slice A n c) (Np.ju h z.data.toList addr).2/\Below w.heap.size w w':=
 (Ve e h k.use.fewH z hz addr w hV.rules k.rh).mono λe w' ⟨h1,h2⟩=>by
   rcases h1 with ⟨n1,rfl⟩ | ⟨n1,n2,⟨n3,rfl⟩ | ⟨n3,v',rfl,h3⟩⟩
   ·rw[Np.Ou (λk=>by
     rcases n1 with n1 | n1
     ·exact n1 k.1
     ·rw[k.2] at n1; cases n1)]
    exact⟨_,_,_,rfl,rfl,fP.nil _ _ _ _,h2⟩
   ·rw[Np.yo ⟨n1,n2⟩,Qb n3]; exact⟨_,_,_,rfl,rfl,fP.nil _ _ _ _,h2⟩
   ·rw[Np.yo ⟨n1,n2⟩,Qc n3];have h4:=h3.around (bQ _) (by have h4:=Ni h.copies z.data.toList (Np.jL h.hosts addr); have h5:=k.use.copies; omega);obtain⟨A,c,rfl⟩:=h4.form;exact⟨_,_,_,rfl,rfl,h4,h2⟩
theorem PB(e:List Value)(h:Np.Hist)(w:World)(hV:je w.heap.size w)(k:jT w e h) :
 Calls prog 14 #[.agg e.toArray] w λe w'=>∃ A n c,e = .returned (.tuple #[.slice A n c,.int .i64 (Np.mN h).1])/\(Np.mN h).2.length=n/\fP RTx 1 0 w.heap.size w' (.slice A n c) (Np.mN h).2/\Below w.heap.size w w':=
 (Xc e h k.use.fewH w hV.rules k.rh).mono λe w' ⟨h1,h2⟩=>by
   rcases h1 with ⟨n1,v',rfl,h3⟩ | ⟨n1,rfl⟩
   ·rw[Np.Hv n1];have h4:=h3.around (bQ _) (by have h4:=NF h.copies; have h5:=k.use.copies; omega) (Mt n1);obtain⟨A,c,rfl⟩:=h4.form;exact⟨_,_,_,rfl,rfl,h4,h2⟩
   ·rw[Np.Ol n1]; exact⟨_,_,_,rfl,rfl,fP.nil _ _ _ _,h2⟩
theorem abQ(e:List Value)(h:Np.Hist)(w:World)(hV:je w.heap.size w)(k:jT w e h) :
 Calls prog 16 #[.agg e.toArray] w λe w'=>e = .returned (.bool (Np.yes (Np.VHist h)))/\Below w.heap.size w w':=
 Aa e h k.use.fewH w hV.rules k.rh
theorem Yj(e:List Value)(h:Np.Hist)(w:World)(k:jT w e h) :
 Calls prog 17 #[.agg e.toArray] w λe w'=>e = .returned (.bool (Np.yes (Np.VHist h)))/\Below w.heap.size w w':=
 Gj e h k.use.fewH w k.rh
end
end Go.Proofs.YtbfbobfbgabjiaaGreatDoor
