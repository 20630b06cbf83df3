/- Parts of the proof. No condition. -/
import Derived.Test.YtfnopgdcaanaiaaGreatDoorU24
import Derived.Test.YtfnopgdcaanaiaaGreatDoorU29
set_option linter.all false
set_option maxRecDepth 100000
set_option maxHeartbeats 8000000
namespace Go.Proofs.YtfnopgdcaanaiaaGreatDoor
open Go.Proofs.Tryz
section
open Go.RowKit Go.Shelf
attribute [local go_sem] Oper.semAt_some
theorem WD(p q:Bool)(w:World):Calls prog 92 #[.bool p,.bool q] w λe w'=>e = .returned (.bool (p&&!q))/\w'=w:=by
 cases p <;> cases q
 all_goals
  go_enter func92,ntmps92;go_wp2_with fail;go_ret;exact⟨rfl,rfl⟩
section
variable {ops:Array Oper} {rest:List Oper} {o:Oper} {a:Act} {Q:Exit->Act->World->Prop}
theorem ZU{F:Fence}{n:Nat}(w:World)(fJ:o.guard=none)(s x:Operand)(ho:o.op = .call { callee:=.builtin .append,args:=#[s,x],argTypes:=#[55,55] })
 (base:Nat) (v:Value) (ps:List Np.Span) (hs:a.eval s=v) (hown:aG base w v ps) (blk:Nat) (f u:Int) (hx:a.eval x = .slice (some ⟨blk,0,none⟩) 1 1) (hc:w.cell? ⟨blk,0,none⟩=some (.int .i64 f)) (aW:w.cell? ⟨blk,1,none⟩=some (.int .i64 u)) (hlen:ps.length<=100000) (cW:base<=w.heap.size)
 (h:∀ v' w',aG base w' v' (ps ++ [⟨f,u⟩])->w.grownBy w' v.ownBlock->(v'.ownBlock=v.ownBlock\/v'.ownBlock=some w.heap.size)->wpListIn F n prog ops Q rest (a.put o.dst v') w'):wpListIn F n prog ops Q (o::rest) a w:=by
 obtain⟨i0,hi,dI,bg,aO⟩:=info_parts Tryz.infoSpan;refine OE w fJ s x 55 ho base 110 i0 (.agg #[.int .i64 0,.int .i64 0]) 2 16 underlying55 hi dI bg aO rfl (by decide) v ps.length (ps.map eL).flatten hs hown ⟨blk,0,none⟩ 1 1 [.int .i64 f,.int .i64 u] hx rfl ?_ (by simp[Value.oneCell']) (by unfold maxLen;omega) (by omega) cW ?_
 ·intro j y hj
  match j,hj with
  | 0,hj=>simp at hj;subst hj;simpa [Addr.add] using hc
  | 1,hj=>simp at hj;subst hj;simpa [Addr.add] using aW
  | j+2,hj=>simp at hj
 ·intro v' w' ho' hg hat;refine h v' w' ?_ hg hat;have e:(ps ++ [(⟨f,u⟩:Np.Span)]).length=ps.length+1:=by simp
  unfold aG;rw[e,List.map_append,List.flatten_append];exact ho'
end
theorem Np.Hh:∀ (l:List (Int×Bool×Bool)) (o:List Np.Span×Int),(l.foldl Np.eR o).1.length<=o.1.length+l.length
 | [],o=>by simp
 | e::l,o=>by
   rw[List.foldl_cons]
   have:=Np.Hh l (Np.eR o e)
   have h2:(Np.eR o e).1.length<=o.1.length+1:=by unfold Np.eR;split <;> split <;> simp
   simp only[List.length_cons];omega
theorem Np.WG:∀ (n:Nat) (xs ys:List Int) (p q:Bool),xs.length+ys.length<=n->(Np.mrg xs ys p q).length<=n:=by
 intro n
 induction n with
 | zero=>
  intro xs ys p q h;obtain rfl:xs = []:=rQ (by omega);obtain rfl:ys = []:=rQ (by omega);rw[Np.mrg];simp
 | succ n ih=>
  intro xs ys p q h
  match xs,ys,h with
  | [],[],h=>rw[Np.mrg];simp
  | x::xs,[],h=>rw[Np.mrg,List.length_cons];have:=ih xs [] (!p) q (by simp at h |-;omega);omega
  | [],y::ys,h=>rw[Np.mrg,List.length_cons];have:=ih [] ys p (!q) (by simp at h |-;omega);omega
  | x::xs,y::ys,h=>
   simp only[List.length_cons] at h;rw[Np.mrg];split
   ·rw[List.length_cons];have:=ih xs (y::ys) (!p) q (by simp only[List.length_cons];omega);omega
   ·split
    ·rw[List.length_cons];have:=ih (x::xs) ys p (!q) (by simp only[List.length_cons];omega);omega
    ·rw[List.length_cons];have:=ih xs ys (!p) (!q) (by omega);omega
def SwI(w6:World)(ob:Nat)(pre:List (Int×Bool×Bool))(S:Nat->Prop)(W:World):Prop:=
 ∃ v,(∀ k,S k↔(k=ob\/k=ob+1)\/v.ownBlock=some k)/\Boxed W ob 55 v/\Boxed W (ob+1) 3 (.int .i64 (pre.foldl Np.eR ([],-1)).2)/\aG w6.heap.size W v (pre.foldl Np.eR ([],-1)).1/\RdStep (λk=>k=ob\/k=ob+1) w6 W
theorem Oj(w6:World)(ob:Nat):eq w6.heap.size (SwI w6 ob):=by
 rintro pre S W W' ⟨v,hS,h1,h2,h3,h4⟩ av;exact⟨v,hS,fL h1 av ((hS _).2 (.inl (.inl rfl))),fL h2 av ((hS _).2 (.inl (.inr rfl))),MW h3 av (λg hg=>(hS g).2 (.inr hg)),⟨av.os.trans h4.os,av.tape.trans h4.tape,av.output.trans h4.output,yQ h4.size av.size,λk hk Cn=>(av.keep k (lQ hk h4.size) (.inl hk)).trans (h4.keep k hk Cn)⟩⟩
theorem Za(A A2:Option Addr)(n c n2 c2:Nat)(l m:List Np.Span)(hl:Np.kN l=true)(hm:Np.kN m=true)(h9:l.length<=9000)(h1:m.length<=1)(w:World)(h:SlR cB 2 w w.heap.size (.slice A n c) l)(h':SlR cB 2 w w.heap.size (.slice A2 n2 c2) m) :
 Calls prog 91 #[.slice A n c,.slice A2 n2 c2,.func (.func 92) #[] #[]] w (λe w'=>∃ v',e = .returned (.tuple #[v',.int .i64 0])/\aG w.heap.size w' v' (Np.qB l m)/\Below w.heap.size w w'):=by
 have HL:=jq h;have HM:=jq h';have HV:=jq (And.intro hl hm);have H9:=jq h9;have H1:=jq h1;obtain⟨X,hX⟩:=abK w.heap.size;obtain⟨w1,ak⟩:=abK (w.alloc (.cells #[.func (.func 92) #[] #[]] 154));have bg:w1.heap.size=X+1:=by rw[<-ak,<-hX];simp
 have hb:Below w.heap.size w w1:=by rw[<-ak];exact (vQ _ _).alloc (bQ _) _
 have ar:=jq hb;have kc:w1.cell? ⟨X,0,none⟩=some (.func (.func 92) #[] #[]):=by rw[<-ak,<-hX];simp[go_sem]
 have IJ:=jq kc;clear h h' hl hm h9 h1 hb;refine (callsIn_wide (n:=0)).1 ?_;refine callsIn_of_wp_marks func91 rfl trivial ?_ rfl;simp only[ntmps91,List.size_toArray,List.length_cons,List.length_nil,Nat.reduceAdd,Nat.reduceSub,Array.replicate_succ,Array.replicate_zero,List.push_toArray,List.append_toArray,List.nil_append,List.cons_append];gi_wp2_with fail;clear ak;refine⟨trivial,rfl,?_⟩;refine (callsIn_wide.2 (N8 _ l w1 ((HL.out.keep bR ar.out).more dZ ar.out.size))).mono ?_;rw[HV.out.1];rintro e w2 ⟨rfl,ab⟩;have aO:=ab.size;replace kc:=abZ ab kc;have ai:=abJ ar ab;clear ab;gi_wp2_with fail;refine⟨trivial,rfl,?_⟩;refine (callsIn_wide.2 (N8 _ m w2 ((HM.out.keep bR ai.out).more dZ ai.out.size))).mono ?_;rw[HV.out.2];rintro e w3 ⟨rfl,ah⟩;have fW:=ah.size;replace kc:=abZ ah kc;have aB:=abJ ai ah;clear ah;obtain⟨ob,Gd⟩:=abK w3.heap.size;obtain⟨w5,aJ⟩:=abK ((w3.alloc (.cells #[.slice none 0 0] 55)).alloc (.cells #[.int .i64 (-1)] 3));have kJ:w5.heap.size=ob+2:=by rw[<-aJ,<-Gd];simp
 have aF:Below w3.heap.size w3 w5:=by rw[<-aJ];exact ((vQ _ _).alloc (bQ _) _).alloc (by simp) _
 have lM:Hid (Boxed w5 ob 55 (.slice none 0 0)):=jq (by
  rw[<-aJ,<-Gd];exact (Boxed.new w3 _ _).alloc _)
 have PB:Hid (Boxed w5 (ob+1) 3 (.int .i64 (-1))):=jq (by
  rw[<-aJ,<-Gd]
  have:=Boxed.new (w3.alloc (.cells #[.slice none 0 0] 55)) 3 (.int .i64 (-1))
  simpa using this)
 replace kc:=abZ aF kc;have cO:=abJ aB aF;clear aF;gi_wp2_with fail;refine⟨trivial,rfl,?_⟩;refine (callsIn_wide.2 (R8 _ _ A A2 n c n2 c2 rfl rfl w5)).mono ?_;rintro e w6 ⟨rfl,dC⟩;have ke:w6.heap.size=ob+4:=by rw[dC];simp;omega
 have aV:Below w5.heap.size w5 w6:=by rw[dC];exact ((vQ _ _).alloc (bQ _) _).alloc (by simp) _
 have kX:w6.cell? ⟨ob+2,0,none⟩=some (.slice A n c):=by rw[dC,<-kJ];simp[go_sem]
 have kY:w6.cell? ⟨ob+2+1,0,none⟩=some (.slice A2 n2 c2):=by rw[dC,show ob+2+1=w5.heap.size+1 by omega];simp[go_sem]
 rw[kJ];have cF:=abJ cO aV;replace kc:=abZ aV kc;have PQ:=jq kc;have AX:=jq (R9 l m (by have:=H9.out;omega) (by have:=H1.out;omega) (Np.o7 HV.out.1) (Np.o7 HV.out.2) (ob+2) (ob+2+1) n c n2 c2 (λk=>k<w6.heap.size/\¬ (k=ob\/k=ob+1)) A A2 w6 ⟨by omega,by omega⟩ ⟨by omega,by omega⟩ kX kY
  (λW hW=>by
    have aI:Below w.heap.size w6 ({ w6 with heap:=W.heap } : World):=⟨rfl,rfl,rfl,hW.1,λk hk=>(hW.2 k ⟨by omega,by omega⟩).2⟩;have h2:=((HL.out.keep bR cF.out).keep bR aI).more dZ (show w.heap.size<=W.heap.size by have:=hW.1;omega);exact NX h2 rfl)
  (λW hW=>by
    have aI:Below w.heap.size w6 ({ w6 with heap:=W.heap } : World):=⟨rfl,rfl,rfl,hW.1,λk hk=>(hW.2 k ⟨by omega,by omega⟩).2⟩;have h2:=((HM.out.keep bR cF.out).keep bR aI).more dZ (show w.heap.size<=W.heap.size by have:=hW.1;omega);exact NX h2 rfl))
 obtain⟨ev,Ch⟩:=abK (Np.mrg (Np.aP l) (Np.aP m) false false);have Pz:=jq Ch;have fC:Hid (ev.length<=18002):=jq (by
  have:=Np.WG _ (Np.aP l) (Np.aP m) false false (bQ _)
  rw[Ch,Np.uM,Np.uM] at this
  have:=H9.out;have:=H1.out
  omega)
 rw[Ch] at AX;have xg:=jq (aeQ lM.out aV);have PC:=jq (aeQ PB.out aV);clear aV dC aJ kX kY kc Ch;gi_wp2_with fail;refine OD (Dr:=λk=>k<w6.heap.size/\¬ (k=ob\/k=ob+1)) (w0:=w6) (first:=#[]) (captured:=#[.pointer (some ⟨ob+2,0,none⟩),.pointer (some ⟨ob+2+1,0,none⟩)]) (gf:=239) rfl Sb (mk:=λy=>#[y,.pointer (some ⟨ob+2,0,none⟩),.pointer (some ⟨ob+2+1,0,none⟩)]) (λ_=>rfl)
  AX.out (eK.refl λk e=>e.1) (λ_=>rfl) (SwI w6 ob) (λ_ _ _ _=>False)
  (Oj _ _) (λc s S W W' h _=>h)
  (λk=>k=ob\/k=ob+1) (λk h1 h2=>h2.2 h1) (by intro k h;omega)
  ⟨.slice none 0 0,λk=>by simp[Value.ownBlock],xg.out,PC.out,aG.nil _ _,RdStep.refl _ _⟩ ?round ?done ?stop
 case stop=>
  rintro D c pre S W hD ew aM gD h hK;exact h.elim
 case done=>
  rintro D S W hD ew aM ⟨v,hS,dX,ed,hown,aA⟩ hK;obtain⟨r,hr⟩:=abK ((ev.foldl Np.eR ([],-1)).1);have HR:Hid (Np.qB l m=r):=jq (by unfold Np.qB;rw[Pz.out,hr]);have js:r.length<=18002:=by rw[<-hr];have:=Np.Hh ev ([],-1);have:=fC.out;simp at *;omega
  rw[hr] at hown;obtain⟨nr,mV⟩:=abK r.length;obtain⟨vA,vc,rfl⟩:∃ A c,v = .slice A nr c:=by rw[<-mV];exact hown.form
  rw[mV] at js;have bo:=dX.cell;have aa:=(eQ.1 hK).1;have hd:decide ((20000:Int)<(nr:Int))=false:=acJ;have gq:Hid (aG w.heap.size (W.putObj D (.deferred none)) (.slice vA nr vc) r):=jq (aG.weak (show aG w6.heap.size (W.putObj D (.deferred none)) (.slice vA nr vc) r from cM hown (λg hg=>zQ (λe=>ew (e ▸ (hS g).2 (.inr hg))))) (by omega));have aL:Hid (Below w.heap.size w W):=jq (cF.out.trans (aA.below (by omega) (λk e=>by omega)));have qJ:=jq hK;have AT:Hid (w.heap.size<=D):=jq (by omega);clear hK hown dX ed hS aA hr mV;gi_wp2_with fail;refine mN qJ.out (v:=.tuple #[.slice vA nr vc,.int .i64 0]) (by simp[results,results91,go_sem]) ?_;exact⟨_,rfl,by rw[HR.out];exact gq.out,mK aL.out AT.out _⟩
 case round=>
  rintro l0 pre ⟨t,p,q⟩ S W aU hI eW;have pC:Hid (pre.length<=18002):=jq (by have h1:=aU.length_le;have h2:=fC.out;rw[List.length_append] at h1;omega);have yl:w6.heap.size<=W.heap.size:=by obtain⟨v,_,_,_,_,aA⟩:=hI;exact aA.size
  have nJ:SwI w6 ob pre S (W.alloc (.cells #[.bool p,.bool q] 231)):=by
   obtain⟨v,hS,dX,ed,hown,aA⟩:=hI;exact⟨v,hS,dX.alloc _,ed.alloc _,hown.alloc _,aA.then_below ((vQ _ _).alloc (bQ _) _)⟩
  clear hI aU;gi_wp2;refine⟨λk=>S k\/k=W.heap.size,(RdStep.refl S W).alloc _,λk e=>e.imp id (λh=>by omega),λk e=>by rcases e with e | e;have:=eW k e;simp;omega;simp;omega,?_⟩;intro lq W₂ av;obtain⟨E,hE⟩:=abK W.heap.size;obtain⟨v,hS,dX,ed,hown,aA⟩:=Oj w6 ob pre S _ W₂ nJ (av.weaken (bQ _) (λk e=>.inl e));have kF:=av.size;simp only[World.size_alloc] at kF;have ku:W₂.heap[E]?=some (.cells #[.bool p,.bool q] 231 (0,0)):=by rw[<-hE];exact (av.keep W.heap.size (by simp) (.inr (.inr rfl))).trans (heap_alloc_new _ _)
  rw[hE] at kF yl |-;have d0:W₂.cell? ⟨E,0,none⟩=some (.bool p):=by simp[World.cell?,ku]
  have d1:W₂.cell? ⟨E,1,none⟩=some (.bool q):=by simp[World.cell?,ku]
  have eB:∀ k,S k->k<W₂.heap.size:=λk e=>by have:=eW k e;omega
  have fV:∀ g,v.ownBlock=some g->w6.heap.size<=g/\g<W₂.heap.size:=λg hg=>hown.lt g hg;have kc:W₂.cell? ⟨X,0,none⟩=some (.func (.func 92) #[] #[]):=(iQ (a:=⟨X,0,none⟩) (aA.keep X (by omega) (by omega))).trans PQ.out;obtain⟨out,f,qh⟩:∃ out f,pre.foldl Np.eR ([],-1)=(out,f):=⟨_,_,rfl⟩;have qi:out.length<=18002:=by have h1:=Np.Hh pre ([],-1);rw[qh] at h1;have:=pC.out;simp at h1;omega
  rw[qh] at ed hown;dsimp only at ed hown;obtain⟨cnt,Cd⟩:=abK (p&&!q);have cJ:Hid ((pre ++ [(t,p,q)]).foldl Np.eR ([],-1)=if cnt then (if f<0 then (out,t) else (out,f)) else (if 0<=f then (out ++ [⟨f,t⟩],-1) else (out,f))):=jq (by
   rw[List.foldl_append,qh];show Np.eR (out,f) (t,p,q)=_;unfold Np.eR;dsimp only;rw[Cd])
  obtain⟨nr,mV⟩:=abK out.length;obtain⟨vA,vc,rfl⟩:∃ A c,v = .slice A nr c:=by rw[<-mV];exact hown.form
  have bo:=dX.cell;have zo:=dX.frozen;have bf:=ed.cell;have zf:=ed.frozen;have HOUT:=jq (And.intro hS (And.intro dX (And.intro ed (And.intro hown (And.intro aA (And.intro eB fV))))));have uw:=jq (And.intro mV qi);have abQ:=jq Cd;have oi:=jq (And.intro yl kF);clear hS dX ed hown aA av nJ eW eB fV ku qh mV qi;gi_wp2_with fail;refine⟨trivial,rfl,?_⟩;refine (CallsIn.inRound lq (callsIn_wide.2 (WD p q W₂))).mono ?_;rw[Cd];rintro e w7 ⟨rfl,rfl⟩;clear Cd;obtain⟨hS,dX,ed,hown,aA,eB,fV⟩:=HOUT.out;have mV:=uw.out.1;have qi:=uw.out.2
  cases cnt with
  | true=>
   by_cases hf:f<0
   ·have fS:decide (f<0)=true:=uQ hf;have jM:Hid ((pre ++ [(t,p,q)]).foldl Np.eR ([],-1)=(out,t)):=jq (by rw[cJ.out,Qb rfl,Qb hf]);clear hS dX ed hown aA eB fV mV qi;gi_wp2_with fail;obtain⟨hS,dX,ed,hown,aA,eB,fV⟩:=HOUT.out;refine⟨λk=>(k=ob\/k=ob+1)\/(Value.slice vA nr vc).ownBlock=some k,(RdStep.refl _ _).setCell (.inl (.inl ((hS _).2 (.inl (.inr rfl))))) _,λk e=>.inl (.inl ((hS k).2 e)),λk e=>by simpa [World.setCell] using eB k ((hS k).2 e),.slice vA nr vc,λk=>Iff.rfl,bK dX (by dsimp only;omega) _,?_,?_,aA.setCell (.inl (.inr rfl)) _⟩
    ·rw[jM.out];exact ed.set _
    ·rw[jM.out];exact cM hown (λg hg=>wQ _ _ _ _ (by dsimp only;have:=(fV g hg).1;omega))
   ·have fS:decide (f<0)=false:=tQ hf;have jM:Hid ((pre ++ [(t,p,q)]).foldl Np.eR ([],-1)=(out,f)):=jq (by rw[cJ.out,Qb rfl,Qc hf]);clear hS dX ed hown aA eB fV mV qi;gi_wp2_with fail;obtain⟨hS,dX,ed,hown,aA,eB,fV⟩:=HOUT.out;exact⟨λk=>(k=ob\/k=ob+1)\/(Value.slice vA nr vc).ownBlock=some k,RdStep.refl _ _,λk e=>.inl (.inl ((hS k).2 e)),λk e=>eB k ((hS k).2 e),.slice vA nr vc,λk=>Iff.rfl,dX,by rw[jM.out];exact ed,by rw[jM.out];exact hown,aA⟩
  | false=>
   by_cases hf:0<=f
   ·have fS:decide (0<=f)=true:=uQ hf;have jM:Hid ((pre ++ [(t,p,q)]).foldl Np.eR ([],-1)=(out ++ [⟨f,t⟩],-1)):=jq (by rw[cJ.out,Qc (by simp),Qb hf]);clear hS dX ed hown aA eB fV;gi_wp2_with (gi_at_builtin;refine ZU _ rfl _ _ rfl w6.heap.size (.slice vA nr vc) out rfl (HOUT.out.2.2.2.1.alloc _) w7.heap.size f t rfl (by simp[go_sem]) (by simp[go_sem]) (by omega) (by have:=oi.out;simp;omega) ?_;intro v9 w9 ry ri yq;obtain⟨A9,c9,rfl⟩:∃ A c,v9 = .slice A (nr+1) c:=(by have:=ry.form;rwa [List.length_append,mV] at this);have uY:=(HOUT.out.2.1.alloc (.cells #[.int .i64 f,.int .i64 t] 110)).kept ri (λe=>by have:=(HOUT.out.2.2.2.2.2.2 _ e.symm).1;omega);have uX:=(HOUT.out.2.2.1.alloc (.cells #[.int .i64 f,.int .i64 t] 110)).kept ri (λe=>by have:=(HOUT.out.2.2.2.2.2.2 _ e.symm).1;omega);have OW:=jq (And.intro ry (And.intro ri (And.intro yq (And.intro uY uX))));have bo9:=uY.cell;have zo9:=uY.frozen;have bf9:=uX.cell;have zf9:=uX.frozen;clear ry ri yq uY uX);obtain⟨hS,dX,ed,hown,aA,eB,fV⟩:=HOUT.out;obtain⟨ry,ri,yq,uY,uX⟩:=OW.out;have U5:=ri.size;simp only[World.size_alloc] at U5 yq;have fT:=oi.out;refine⟨λk=>(k=ob\/k=ob+1)\/(Value.slice A9 (nr+1) c9).ownBlock=some k,((((RdStep.refl _ w7).alloc _).grown ri (λk e=>.inl (.inl ((hS k).2 (.inr e))))).setCell (.inl (.inl ((hS _).2 (.inl (.inl rfl))))) _).setCell (.inl (.inl ((hS _).2 (.inl (.inr rfl))))) _,λk e=>?_,λk e=>?_,.slice A9 (nr+1) c9,λk=>Iff.rfl,bK (uY.set _) (by dsimp only;omega) _,?_,?_,(((aA.alloc _).grown ri (λk e=>.inr (fV k e).1)).setCell (.inl (.inl rfl)) _).setCell (.inl (.inr rfl)) _⟩
    ·rcases e with e | e
     ·exact .inl (.inl ((hS k).2 (.inl e)))
     ·rcases yq with h | h
      ·exact .inl (.inl ((hS k).2 (.inr (h ▸ e))))
      ·rw[h] at e;right;have:=Option.some.inj e;omega
    ·simp[World.setCell];rcases e with e | e
     ·omega
     ·exact (ry.lt k e).2
    ·rw[jM.out];exact (bK uX (by dsimp only;omega) _).set _
    ·rw[jM.out];exact cM ry (λg hg=>(wQ _ _ _ _ (by dsimp only;have:=(ry.lt g hg).1;omega)).trans (wQ _ _ _ _ (by dsimp only;have:=(ry.lt g hg).1;omega)))
   ·have fS:decide (0<=f)=false:=tQ hf;have jM:Hid ((pre ++ [(t,p,q)]).foldl Np.eR ([],-1)=(out,f)):=jq (by rw[cJ.out,Qc (by simp),Qc hf]);clear hS dX ed hown aA eB fV mV qi;gi_wp2_with fail;obtain⟨hS,dX,ed,hown,aA,eB,fV⟩:=HOUT.out;exact⟨λk=>(k=ob\/k=ob+1)\/(Value.slice vA nr vc).ownBlock=some k,RdStep.refl _ _,λk e=>.inl (.inl ((hS k).2 e)),λk e=>eB k ((hS k).2 e),.slice vA nr vc,λk=>Iff.rfl,dX,by rw[jM.out];exact ed,by rw[jM.out];exact hown,aA⟩
theorem MK(A A2:Option Addr)(n c n2 c2:Nat)(l m:List Np.Span)(hl:Np.kN l=true)(hm:Np.kN m=true)(h9:l.length<=9000)(h1:m.length<=1)(w:World)(h:SlR cB 2 w w.heap.size (.slice A n c) l)(h':SlR cB 2 w w.heap.size (.slice A2 n2 c2) m) :
 Calls prog 45 #[.slice A n c,.slice A2 n2 c2] w (λe w'=>∃ v',e = .returned (.tuple #[v',.int .i64 0])/\aG w.heap.size w' v' (Np.qB l m)/\Below w.heap.size w w'):=by
 have HC:=jq (Za A A2 n c n2 c2 l m hl hm h9 h1 w h h');clear hl hm h9 h1 h h';go_enter func45,ntmps45;go_wp2_with fail;refine HC.out.mono ?_;rintro e w1 ⟨v1,rfl,rx,an⟩;have H1:=jq (And.intro rx an);clear rx an;go_wp2_with fail;go_ret2;exact⟨_,rfl,H1.out.1,H1.out.2⟩
end
section
open Go.RowKit Go.Shelf
attribute [local go_sem] Oper.semAt_some
def tc(z:ByteArray)(rv:Value):Value->Value->Value
 | .agg xs,f=>.agg (#[.string z]++xs ++ #[f,rv])
 | _,_=>undef
def gv(oA:Option Addr)(m oc E:Nat)(zs sn:ByteArray)(sty slf:Int)(dA:Option Addr)(dn dc:Nat)(gA:Option Addr)(gn gc:Nat)(fA:Option Addr)(fn fc:Nat)(A7:Option Addr)(n7 c7:Nat)(e5:Value)(e8:Value)(e11:Value)(e12:Value)(i:Nat):Value:=[.slice oA m oc,.pointer (some ⟨E,0,none⟩),.string zs,.pointer (some ⟨E,1,none⟩),.agg #[.string sn,.int .i64 sty,.int .i64 slf,.slice dA dn dc,.slice gA gn gc],e5,.pointer (some ⟨E,6,none⟩),.slice fA fn fc,e8,.slice A7 n7 c7,tc zs (.slice A7 n7 c7) e5 e8,e11,e12,undef].getD i undef
def jV(i:Nat):Nat:=[50,51,52,53,54,55,56,57,58,59,60,61,62,6].getD i 0
def SG:List Nat:=[0,1,2,3,4,6,7,9,10,5,8,11,12].map jV
theorem oG:∀ i∈[0,1,2,3,4,6,7,9,10,5,8,11,12],jV i<65/\jV i∈SG:=by decide
theorem pN:∀ i∈[0,1,2,3,4,6,7,9,10,5,8,11,12],∀ j∈[0,1,2,3,4,6,7,9,10,5,8,11,12],j≠i->jV i≠jV j:=by decide
theorem SJ(e:List Value)(h:Np.Hist)(w:World)(hV:kj w.heap.size w)(k:pu w e h) :
 Calls prog 42 #[.agg e.toArray] w λe w'=>∃ A n c,e = .returned (.tuple #[.slice A n c,.int .i64 (Np.qY h).1])/\(Np.qY h).2.length=n/\SlR ea 8 w' w'.heap.size (.slice A n c) (Np.qY h).2/\Below w.heap.size w w':=by
 obtain⟨A1,n1,c1,A2,n2,c2,s,ty,lf,A3,n3,c3,A4,n4,c4,dr,st,rfl,-,-,-,-,-⟩:=G4 k.rh;have pp:Hid (h.drift=dr):=jq (by
  obtain⟨hv,cv,s',dv,cX,he,_⟩:=k.rh;simp only[List.cons.injEq,Value.int.injEq,true_and,and_true] at he;exact he.2.2.2.2.2.2.2.1.symm)
 obtain⟨X,hX⟩:=abK w.heap.size;obtain⟨w1,ak⟩:=abK (w.alloc (.cells #[.slice A1 n1 c1,.slice A2 n2 c2,.string s,.int .i64 ty,.int .i64 lf,.slice A3 n3 c3,.slice A4 n4 c4,.int .i64 dr,.int .i64 st] 29));have bg:w1.heap.size=X+1:=by rw[<-ak,<-hX];simp
 have hb:Below w.heap.size w w1:=by rw[<-ak];exact (vQ _ _).alloc (bQ _) _
 have ar:=jq hb;have gJ:=jq (hV.next hb);have wT:=jq (k.keep hb);have dg:=jq (oB _ _ hX ak);obtain⟨gx,ft⟩:=abK (Np.qY h);rw[ft];have lL:=jq ft;clear hb k hV ft;have k0:=dg.out 0 _ rfl;have k1:=dg.out 1 _ rfl;have k2:=dg.out 2 _ rfl;have k3:=dg.out 3 _ rfl;have k4:=dg.out 4 _ rfl;have k5:=dg.out 5 _ rfl;have k6:=dg.out 6 _ rfl;have k7:=dg.out 7 _ rfl;have k8:=dg.out 8 _ rfl;go_enter func42,ntmps42;go_wp2_with fail;clear ak;refine (JX _ h w1 gJ.out wT.out).mono ?_;rintro e w2 ⟨A,n,c,rfl,hl,har,hb⟩;have vE:=har.all nk;have aO:=hb.size;have ai:=jq (ar.out.trans (hb.mono ar.out.size));have lP:=jq (gJ.out.next hb);have qI:=jq (wT.out.keep hb);have dJ:=jq (dg.out.keep hb (by omega));clear hb har;clear k0 k1 k2 k3 k4 k5 k6 k7 k8;have k0:=dJ.out 0 _ rfl;have k1:=dJ.out 1 _ rfl;have k2:=dJ.out 2 _ rfl;have k3:=dJ.out 3 _ rfl;have k4:=dJ.out 4 _ rfl;have k5:=dJ.out 5 _ rfl;have k6:=dJ.out 6 _ rfl;have k7:=dJ.out 7 _ rfl;have k8:=dJ.out 8 _ rfl;by_cases eX:Np.VHist h
 case neg=>
  rw[Np.EV eX];have HN:=jq eX;clear eX;go_wp2_with fail;refine bodyPost_ret (v:=.tuple #[.slice none 0 0,.int .i64 1]) (by simp[results,results42,go_sem]) rfl ?_;rw[<-lL.out];unfold Np.qY;rw[Np.EV HN.out];exact⟨_,_,_,rfl,rfl,Dd _ _ _ _,ai.out⟩
 case pos=>
  rw[Np.xN eX] at hl vE |-;dsimp only at hl vE;have Iy:Hid (gx=(0,Np.dt dr (Np.gN h))):=jq (by rw[<-lL.out];unfold Np.qY;rw[Np.xN eX,pp.out]);have kU:Hid (0<=dr/\dr<=1000):=jq (by rw[<-pp.out];exact eX.drift);have uu:Hid (∀ x∈Np.gN h,Np.GapOk x):=jq (λx hx=>Np.JI eX qI.out.use hx);have ct:n<=2100:=by rw[<-hl];unfold Np.gN;rw[List.length_map];exact qI.out.use.pubAll
  obtain⟨l,ro⟩:=abK (Np.gN h);rw[ro] at hl vE Iy uu;have EB:=jq vE;have jL:=jq hl;have ky:n<=c:=by
   obtain⟨A',c',h1,h2,_⟩:=aj vE;simp only[Value.slice.injEq] at h1;omega
  obtain⟨B,hB⟩:=abK w2.heap.size;have Ti:X<B:=by omega
  obtain⟨i0,lw,dI,GH,GI⟩:=info_parts Tryz.infoHeldA;clear eX vE hl ro;clear k0 k1 k2 k3 k4 k5 k6 k7 k8;go_wp2_with fail;go_loopw [6,22] (λvo i wr=>∃ (k m:Nat) (oA:Option Addr) (oc:Nat) (M:Nat->Prop),k<=n/\i = .int .i64 k/\vo = .slice oA m oc/\Hid ((Np.dt dr (l.take k)).length=m)/\Hid (∀ j,M j->B<=j/\j<wr.heap.size)/\Hid (bN ea 8 57 B M wr (.slice oA m oc) (Np.dt dr (l.take k)))/\Hid (Below B w2 wr)) (λ_ i _=>n - (intOf i).toNat)
  case atStart=>exact⟨0,0,none,0,λ_=>False,jQ _,rfl,rfl,jq rfl,jq (λj h=>h.elim),jq (bN.nil _),jq (vQ _ _)⟩
  case round=>
   obtain⟨k,m,oA,oc,M,hk,rfl,rfl,dK,Ef,HO,HB⟩:=hrel;have al:=HB.out.size;have gV:m<=2100:=by rw[<-dK.out];have h1:=Np.BO dr (l.take k);rw[List.length_take,jL.out] at h1;omega
   by_cases aa:k<n
   case neg=>
    have sR:Hid (l.take k=l):=jq (kQ (by rw[jL.out];omega));rw[sR.out] at HO dK;have HE:Hid (Below w.heap.size w wr):=abJ ai HB.out;go_wp2_with fail;refine bodyPost_ret (v:=.tuple #[.slice oA m oc,.int .i64 0]) (by simp[results,results42,go_sem]) rfl ?_;rw[Iy.out];exact⟨_,_,_,rfl,dK.out,HO.out.slr nk (by rw[dK.out];omega),HE.out⟩
   case pos=>
    obtain⟨x,ac⟩:∃ x,l[k]?=some x:=⟨_,aQ (by rw[jL.out];exact aa)⟩;have sS:Hid (Np.dt dr (l.take (k+1))=Np.dt dr (l.take k)++Np.ji dr x):=jq (by rw[Hk ac,Np.Ky]);have fD:=jq (uu.out x (gQ ac));have AE:=jq (show Below w2.heap.size w2 wr by rw[hB];exact HB.out);obtain⟨A'',c'',hA'',_,_,aC⟩:=EB.out.later jA iD AE.out;simp only[Value.slice.injEq] at hA'';obtain⟨rfl,-,rfl⟩:=hA'';obtain⟨b,o,ec,rfl,bq,hlen,hce,UQ⟩:=aC k x ac;obtain⟨zs,sn,dv,sv,fv,pv,rfl,qw,lF,aw,j8,aR,aN,jY,kA⟩:=UQ;obtain⟨dA,dn,dc,rfl,pW,_,_⟩:=o4 aR;obtain⟨gA,gn,gc,rfl,ip,_,_⟩:=o4 aN;obtain⟨fA,fn,fc,rfl,gT,_,_⟩:=o4 jY;obtain⟨pA,pn,pc,rfl,LM,_,_⟩:=o4 kA;have fF:=jq (And.intro pW (And.intro ip (And.intro gT LM)));have xG:=jq (And.intro qw (And.intro lF (And.intro aw j8)));have xx:Hid ((⟨⟨sn.data.toList,x.signed.set.type,x.signed.set.life,x.signed.set.data⟩,x.signed.sigs⟩:Np.Signed)=x.signed):=jq (by rw[aw]);have kV:=jq aR;have ot:=jq aN;have wP:=jq jY;have pE:=jq kA;have f0:wr.cell? ⟨b,o+k * 8,none⟩=some _:=hce 0 _ rfl;have f1:wr.cell? ⟨b,o+k * 8+1,none⟩=some _:=hce 1 _ rfl;have f2:wr.cell? ⟨b,o+k * 8+2,none⟩=some _:=hce 2 _ rfl;have f3:wr.cell? ⟨b,o+k * 8+3,none⟩=some _:=hce 3 _ rfl;have f4:wr.cell? ⟨b,o+k * 8+4,none⟩=some _:=hce 4 _ rfl;have f5:wr.cell? ⟨b,o+k * 8+5,none⟩=some _:=hce 5 _ rfl;have f6:wr.cell? ⟨b,o+k * 8+6,none⟩=some _:=hce 6 _ rfl;have f7:wr.cell? ⟨b,o+k * 8+7,none⟩=some _:=hce 7 _ rfl;have bL:(0:Int)<=(k:Int):=by omega
    have bY:(k:Int)<(n:Int):=by omega
    obtain⟨E,hE⟩:=abK wr.heap.size;obtain⟨w5,aJ⟩:=abK (wr.alloc (.cells #[.string zs,.string sn,.int .i64 x.signed.set.type,.int .i64 x.signed.set.life,.slice dA dn dc,.slice gA gn gc,.slice fA fn fc,.slice pA pn pc] 57));have aF:Below wr.heap.size wr w5:=by rw[<-aJ];exact (vQ _ _).alloc (bQ _) _
    have kJ:w5.heap.size=E+1:=by rw[<-aJ,<-hE];simp
    have pk:=jq (oB _ _ hE aJ);have cO:=jq aF;have eI:=jq ((dJ.out.keep HB.out (by omega)).keep aF (by omega));have Bn:=jq ((lP.out.next AE.out).next aF);have k0:=eI.out 0 _ rfl;have k1:=eI.out 1 _ rfl;have k2:=eI.out 2 _ rfl;have k3:=eI.out 3 _ rfl;have k4:=eI.out 4 _ rfl;have k5:=eI.out 5 _ rfl;have k6:=eI.out 6 _ rfl;have k7:=eI.out 7 _ rfl;have k8:=eI.out 8 _ rfl;have d0:=pk.out 0 _ rfl;have d1:=pk.out 1 _ rfl;have d2:=pk.out 2 _ rfl;have d3:=pk.out 3 _ rfl;have d4:=pk.out 4 _ rfl;have d5:=pk.out 5 _ rfl;have d6:=pk.out 6 _ rfl;have d7:=pk.out 7 _ rfl;clear ac aC hce qw lF aw j8 aR aN jY kA pW ip gT LM aF hlen;go_wp2_with fail;clear aJ f0 f1 f2 f3 f4 f5 f6 f7;refine (Am sn xG.out.2.2.2 x.signed.set.type x.signed.set.life _ _ x.signed.set.data x.signed.sigs dr 20000000 w5 Bn.out.rules (kV.out.later cu cS cO.out) (ot.out.later cT dU cO.out)).mono ?_;rw[xx.out,Np.An fD.out.plain kU.out];rintro e w6 ⟨v6,rfl,oL,aV⟩;obtain⟨A6,n6,c6,rfl,zc,_,_⟩:=o4 oL;have ke:=aV.size;have xw:=jq oL;have cF:=abJ cO aV;have iH:=jq (eI.out.keep aV (by omega));have pm:=jq (pk.out.keep aV (by omega));clear k0 k1 k2 k3 k4 k5 k6 k7 k8;clear d0 d1 d2 d3 d4 d5 d6 d7;have d0:=pm.out 0 _ rfl;have d1:=pm.out 1 _ rfl;have d2:=pm.out 2 _ rfl;have d3:=pm.out 3 _ rfl;have d4:=pm.out 4 _ rfl;have d5:=pm.out 5 _ rfl;have d6:=pm.out 6 _ rfl;have d7:=pm.out 7 _ rfl;clear oL aV zc;go_wp2_with fail;refine (MK pA A6 pn pc n6 c6 x.spans (Np.fl x.signed dr 20000000) fD.out.valid (Np.uc fD.out.plain kU.out).1 fD.out.few (Np.uc fD.out.plain kU.out).2 w6 (pE.out.later bR dZ cF.out) xw.out).mono ?_;rintro e w7 ⟨v7,rfl,vw,du⟩;replace vw:aG w6.heap.size w7 v7 (Np.fN dr x):=vw;obtain⟨gp,p7⟩:=abK (Np.fN dr x);have pt:Hid (gp.length<=18000):=jq (by rw[<-p7];exact Np.Kv fD.out kU.out);rw[p7] at vw;obtain⟨n7,tG⟩:=abK gp.length;obtain⟨A7,c7,rfl⟩:∃ A c,v7 = .slice A n7 c:=by rw[<-tG];exact vw.form
    have oq:=jq (And.intro p7 tG);have Em:=jq vw;have rN:=du.size;have iF:=abJ cF du;have jc:=jq (pm.out.keep du (by omega));clear d0 d1 d2 d3 d4 d5 d6 d7;clear vw du p7 tG;have su:Hid (Below B w2 w7):=abJ HB iF.out;by_cases kw:n7=0
    case pos=>
     subst kw;have HH:Hid (Np.ji dr x = []):=jq (by unfold Np.ji;rw[oq.out.1,Qb (rQ oq.out.2)]);have bk:=jq (HO.out.keep jA nk iD iF.out);have d0:=jc.out 0 _ rfl;have d1:=jc.out 1 _ rfl;have d2:=jc.out 2 _ rfl;have d3:=jc.out 3 _ rfl;have d4:=jc.out 4 _ rfl;have d5:=jc.out 5 _ rfl;have d6:=jc.out 6 _ rfl;have d7:=jc.out 7 _ rfl;go_wp2_with fail;go_roundw
     case measure=>simp[intOf] <;> omega
     case rel=>exact⟨k+1,m,oA,oc,M,by omega,by go_num,rfl,jq (by rw[sS.out,HH.out,List.append_nil];exact dK.out),jq (λj hj=>by have:=Ef.out j hj;omega),jq (by rw[sS.out,HH.out,List.append_nil];exact bk.out),su⟩
    case neg=>
     have vg:decide ((0:Int)<(n7:Int))=true:=acK;have HH:Hid (Np.ji dr x = [{ x with spans:=gp }]):=jq (by unfold Np.ji;rw[oq.out.1,Qc (λe=>kw (by rw[<-oq.out.2,e];rfl))]);have fP:Below w7.heap.size w7 w7.drew:=(vQ _ _).drew;obtain⟨w8,mj⟩:=abK w7.drew;rw[mj] at fP;have vI:w8.heap.size=w7.heap.size:=by rw[<-mj];rfl
     have jF:=abJ iF fP;have O3:=jq fP;have qG:=jq (jc.out.keep fP (by omega));have d0:=jc.out 0 _ rfl;have d1:=jc.out 1 _ rfl;have d2:=jc.out 2 _ rfl;have d3:=jc.out 3 _ rfl;have d4:=jc.out 4 _ rfl;have d5:=jc.out 5 _ rfl;have d6:=jc.out 6 _ rfl;have d7:=jc.out 7 _ rfl;go_wp2_with fail;clear d0 d1 d2 d3 d4 d5 d6 d7;have d0:=qG.out 0 _ rfl;have d1:=qG.out 1 _ rfl;have d2:=qG.out 2 _ rfl;have d3:=qG.out 3 _ rfl;have d4:=qG.out 4 _ rfl;have d5:=qG.out 5 _ rfl;have d6:=qG.out 6 _ rfl;have d7:=qG.out 7 _ rfl;clear fP;refine Z6 λa0 dF=>?_;have ph:=jq dF;have fB:=jq (show a0.eval (.tmp 6) = .slice oA m oc by rw[dF];rfl);have sh:=jq (show a0.eval (.tmp 8) = .pointer (some ⟨E,0,none⟩) by rw[dF];rfl);have od:=jq (show a0.eval (.tmp 11) = .slice A7 n7 c7 by rw[dF];rfl);have HM:=jq (show a0.tmps.size=65 by rw[dF];rfl);clear dF;refine wp_region_any (by kernel_rfl) ?_
     try rw[show ({ heap:=w7.heap,tape:=w7.tape,drawn:=w7.drawn+1,os:=w7.os,output:=w7.output } : World)=w8 from mj]
     try rw[mj]
     refine jC 5 (D:=[0,1,2,3,4,6,7,9]) (val:=gv oA m oc E zs sn x.signed.set.type x.signed.set.life dA dn dc gA gn gc fA fn fc A7 n7 c7 undef undef undef undef) oG pN (yJ HM.out) (by kernel_rfl) ?_ ?_
     ·intro i bl de o ho a' hb bw;have k6':=adK hb fB.out;have k8':=adK hb sh.out;have k11':=adK hb od.out;simp[Act.eval] at k6' k8' k11'
      repeat' (rcases bl with _ | ⟨_,bl⟩)
      all_goals first
       | (exfalso;simp at de;done)
       | (cases ho
          try simp[Act.eval,Region.binds,gv,jV] at bw
          refine iX (by simp[Region.wanted]) ?_;simp[Oper.quietAt,Oper.quietUpon,execOp,go_sem,gv,k6',k8',k11',d0,d1,d2,d3,d4,d5,d6,tc,bw])
     ·intro f listed a' hH hr hv;have av4:=hv 4;simp[Act.eval,gv,jV] at av4;simp only[wpOp];simp[Region.wanted];refine .inl ?_;simp[Oper.wp,go_sem,av4];refine (Yn sn x.signed.set.type x.signed.set.life _ x.signed.set.data _ x.signed.sigs (by have:=Np.M5 fD.out.plain;omega) (by have:=Np.M5 fD.out.plain;omega) w8 (kV.out.later cu cS jF.out) (ot.out.later cT dU jF.out)).mono ?_;rintro e w9 ⟨dv2,gv2,rfl,im,dj⟩;have GJ:=dj.size;replace d0:=abZ dj d0;replace d1:=abZ dj d1;replace d2:=abZ dj d2;replace d3:=abZ dj d3;replace d4:=abZ dj d4;replace d5:=abZ dj d5;replace d6:=abZ dj d6;replace d7:=abZ dj d7;have kT:Hid (AB w8.heap.size w9 dv2 gv2 x.signed.set.data x.signed.sigs):=jq im;obtain⟨dA2,dc2,rfl,_,_⟩:=aj ((im (λ_=>False) (λ_ e=>e.elim)).1);obtain⟨gA2,gc2,rfl,_,_⟩:=aj ((im (λ_=>False) (λ_ e=>e.elim)).2);rw[fF.out.1,fF.out.2.1] at kT |-;have gH:=abJ jF dj;have O4:=jq dj;clear im dj;dsimp only;refine jC 8 (D:=[0,1,2,3,4,6,7,9,5]) (val:=gv oA m oc E zs sn x.signed.set.type x.signed.set.life dA dn dc gA gn gc fA fn fc A7 n7 c7 (.agg #[.string sn,.int .i64 x.signed.set.type,.int .i64 x.signed.set.life,.slice dA2 dn dc2,.slice gA2 gn gc2]) undef undef undef) oG pN (hH.next oG pN hr) (by kernel_rfl) ?_ ?_
      ·intro i bl de o ho a' hb bw;have k6':=adK hb fB.out;have k8':=adK hb sh.out;have k11':=adK hb od.out;simp[Act.eval] at k6' k8' k11'
       repeat' (rcases bl with _ | ⟨_,bl⟩)
       all_goals first
        | (exfalso;simp at de;done)
        | (cases ho
           try simp[Act.eval,Region.binds,gv,jV] at bw
           refine iX (by simp[Region.wanted]) ?_;simp[Oper.quietAt,Oper.quietUpon,execOp,go_sem,gv,k6',k8',k11',d0,d1,d2,d3,d4,d5,d6,tc,bw])
      ·intro f listed a' hH hr hv;have av7:=hv 7;simp[Act.eval,gv,jV] at av7;simp only[wpOp];simp[Region.wanted];refine .inl ?_;simp[Oper.wp,go_sem,av7];refine (RD _ x.fresh (by have:=fD.out.fresh;omega) w9 (wP.out.later bR dZ gH.out)).mono ?_;rintro e wC ⟨fv2,rfl,qh,dM⟩;have Mg:=dM.size;replace d0:=abZ dM d0;replace d1:=abZ dM d1;replace d2:=abZ dM d2;replace d3:=abZ dM d3;replace d4:=abZ dM d4;replace d5:=abZ dM d5;replace d6:=abZ dM d6;replace d7:=abZ dM d7;obtain⟨fA2,fc2,rfl⟩:=qh.formL;rw[fF.out.2.2.1] at qh |-;have P8:=jq qh;have jG:=abJ gH dM;have Ig:=jq dM;clear qh dM;dsimp only;refine jC 11 (D:=[0,1,2,3,4,6,7,9,10,5,8]) (val:=gv oA m oc E zs sn x.signed.set.type x.signed.set.life dA dn dc gA gn gc fA fn fc A7 n7 c7 (.agg #[.string sn,.int .i64 x.signed.set.type,.int .i64 x.signed.set.life,.slice dA2 dn dc2,.slice gA2 gn gc2]) (.slice fA2 fn fc2) undef undef) oG pN (hH.next oG pN hr) (by kernel_rfl) ?_ ?_
       ·intro i bl de o ho a' hb bw;have k6':=adK hb fB.out;have k8':=adK hb sh.out;have k11':=adK hb od.out;simp[Act.eval] at k6' k8' k11'
        repeat' (rcases bl with _ | ⟨_,bl⟩)
        all_goals first
         | (exfalso;simp at de;done)
         | (cases ho
            try simp[Act.eval,Region.binds,gv,jV] at bw
            refine iX (by simp[Region.wanted]) ?_;simp[Oper.quietAt,Oper.quietUpon,execOp,go_sem,gv,k6',k8',k11',d0,d1,d2,d3,d4,d5,d6,tc,bw])
       ·intro f listed a' hH hr hv;have av10:=hv 10;simp[Act.eval,gv,jV] at av10;simp only[wpOp];simp[Region.wanted];refine .inl ?_;simp[tc] at av10;simp[Oper.wp,execOp,go_sem,av10];obtain⟨wX,oN⟩:=abX (wC.alloc (.cells #[.string zs,.string sn,.int .i64 x.signed.set.type,.int .i64 x.signed.set.life,.slice dA2 dn dc2,.slice gA2 gn gc2,.slice fA2 fn fc2,.slice A7 n7 c7] 57));rw[<-oN];have dW:Below wC.heap.size wC wX:=by rw[oN];exact (vQ _ _).alloc (bQ _) _
        have yA:fZ wX wC.heap.size 0 [.string zs,.string sn,.int .i64 x.signed.set.type,.int .i64 x.signed.set.life,.slice dA2 dn dc2,.slice gA2 gn gc2,.slice fA2 fn fc2,.slice A7 n7 c7]:=JY (w:=wC) _ _ rfl oN;have Vv:wX.heap.size=wC.heap.size+1:=by rw[oN];simp
        replace d0:=abZ dW d0;replace d1:=abZ dW d1;replace d2:=abZ dW d2;replace d3:=abZ dW d3;replace d4:=abZ dW d4;replace d5:=abZ dW d5;replace d6:=abZ dW d6;replace d7:=abZ dW d7;have sA:=jq yA;have g9:=abJ jG dW;have aaX:=jq dW;have ki:Hid (ea (be wX M) wX.heap.size [.string zs,.string sn,.int .i64 x.signed.set.type,.int .i64 x.signed.set.life,.slice dA2 dn dc2,.slice gA2 gn gc2,.slice fA2 fn fc2,.slice A7 n7 c7] { x with spans:=gp }):=jq (by
         have hM:∀ j,M j->j<wr.heap.size:=λj hj=>(Ef.out j hj).2;have h1:=kT.out M (λj hj=>by have:=hM j hj;omega);have Ls:=Leaves'.of_below (M:=M) (Ig.out.trans (dW.acQ));have h2:=Ls.slr cu zY cS h1.1;have h3:=Ls.slr cT Ae dU h1.2;have h4:SlR cB 2 (be wC M) wC.heap.size (.slice fA2 fn fc2) x.fresh:=by
          have:=(P8.out.sans (M:=M) (λj hj=>by have:=hM j hj;omega) (λr x h=>h)).slr dZ (by rw[gl];omega) (by have:=fD.out.fresh;omega)
          rwa [gl] at this
         have h5:=(Em.out.around (n:=w6.heap.size) (bQ _) (by have:=pt.out;omega)) M (λj hj=>⟨jQ _,by have:=hM j hj;omega⟩);have h4':=(Leaves'.of_below (M:=M) dW).slr bR ND dZ h4;have h5':=(Leaves'.of_below (M:=M) ((((O3.out.trans (O4.out.acQ)).trans (Ig.out.acQ)).trans (dW.acQ)))).slr bR ND dZ h5;exact⟨zs,sn,_,_,_,_,rfl,xG.out.1,xG.out.2.1,xG.out.2.2.1,xG.out.2.2.2,h2,h3,h4',h5'⟩)
        have xl:=jq (HO.out.keep jA nk iD g9.out);clear oN dW yA;refine jC 12 (D:=[0,1,2,3,4,6,7,9,10,5,8,11]) (val:=gv oA m oc E zs sn x.signed.set.type x.signed.set.life dA dn dc gA gn gc fA fn fc A7 n7 c7 (.agg #[.string sn,.int .i64 x.signed.set.type,.int .i64 x.signed.set.life,.slice dA2 dn dc2,.slice gA2 gn gc2]) (.slice fA2 fn fc2) (.slice (some ⟨wC.heap.size,0,none⟩) 1 1) undef) oG pN (hH.next oG pN hr) (by kernel_rfl) ?_ ?_
        ·intro i bl de o ho a' hb bw;have k6':=adK hb fB.out;have k8':=adK hb sh.out;have k11':=adK hb od.out;simp[Act.eval] at k6' k8' k11'
         repeat' (rcases bl with _ | ⟨_,bl⟩)
         all_goals first
          | (exfalso;simp at de;done)
          | (cases ho
             try simp[Act.eval,Region.binds,gv,jV] at bw
             refine iX (by simp[Region.wanted]) ?_;simp[Oper.quietAt,Oper.quietUpon,execOp,go_sem,gv,k6',k8',k11',d0,d1,d2,d3,d4,d5,d6,tc,bw])
        ·intro f listed a' hH hr hv;have av0:=hv 0;have av11:=hv 11;simp[gv,jV] at av0 av11;simp only[wpOp];simp[Region.wanted];refine .inl ?_;refine H7 (R:=ea) (M:=M) wX (.tmp 50) (.tmp 61) 52 rfl B 57 i0 (.agg #[.string ⟨#[]⟩,.string ⟨#[]⟩,.int .i64 0,.int .i64 0,.slice none 0 0,.slice none 0 0,.slice none 0 0,.slice none 0 0]) 144 underlying52 lw dI GH GI rfl (by decide) (.slice oA m oc) (Np.dt dr (l.take k)) av0 xl.out (some ⟨wC.heap.size,0,none⟩) 1 [{ x with spans:=gp }] av11 (NC rfl ki.out sA.out) Nx (by rw[dK.out];simp[maxLen];omega) (by rw[dK.out];simp;omega) (by omega) jA nk iD ?_;intro v8 wY gi dl ls;obtain⟨A8,c8,rfl⟩:=gi.formN (n:=m+1) (by rw[List.length_append,dK.out];rfl);have Vw:=dl.size;have rA:∀ j,(Value.slice oA m oc).ownBlock=some j->B<=j/\j<wr.heap.size:=λj e=>HO.out.lt j e;have j5:wY.heap[E]?=wX.heap[E]?:=dl.block _ (by omega) (λe=>by have:=(rA _ e.symm).2;omega);replace d0:=(iQ (a:=⟨E,0,none⟩) j5).trans d0;replace d1:=(iQ (a:=⟨E,1,none⟩) j5).trans d1;replace d2:=(iQ (a:=⟨E,2,none⟩) j5).trans d2;replace d3:=(iQ (a:=⟨E,3,none⟩) j5).trans d3;replace d4:=(iQ (a:=⟨E,4,none⟩) j5).trans d4;replace d5:=(iQ (a:=⟨E,5,none⟩) j5).trans d5;replace d6:=(iQ (a:=⟨E,6,none⟩) j5).trans d6;replace d7:=(iQ (a:=⟨E,7,none⟩) j5).trans d7;have Pj:Hid (Below B w2 wY):=jq (HB.out.trans ((g9.out.acQ).trans ((vQ _ _).grown dl (by omega) (λj e=>(rA j e).1))));have H8:=jq (And.intro gi (And.intro dl ls));clear gi dl ls j5 rA;refine jC 13 (D:=[0,1,2,3,4,6,7,9,10,5,8,11,12]) (val:=gv oA m oc E zs sn x.signed.set.type x.signed.set.life dA dn dc gA gn gc fA fn fc A7 n7 c7 (.agg #[.string sn,.int .i64 x.signed.set.type,.int .i64 x.signed.set.life,.slice dA2 dn dc2,.slice gA2 gn gc2]) (.slice fA2 fn fc2) (.slice (some ⟨wC.heap.size,0,none⟩) 1 1) (.slice A8 (m+1) c8)) oG pN (hH.next oG pN hr) (by kernel_rfl) ?_ ?_
         ·intro i bl de o ho a' hb bw;have k6':=adK hb fB.out;have k8':=adK hb sh.out;have k11':=adK hb od.out;simp[Act.eval] at k6' k8' k11'
          repeat' (rcases bl with _ | ⟨_,bl⟩)
          all_goals first
           | (exfalso;simp at de;done)
           | (cases ho
              try simp[Act.eval,Region.binds,gv,jV] at bw
              refine iX (by simp[Region.wanted]) ?_;simp[Oper.quietAt,Oper.quietUpon,execOp,go_sem,gv,k6',k8',k11',d0,d1,d2,d3,d4,d5,d6,tc,bw])
         ·intro f listed a' hH hr hv;have av12:=hv 12;simp[Act.eval,gv,jV] at av12;simp only[wpOp];simp[Region.wanted];refine .inl ?_;simp[Oper.wp,execOp,go_sem,av12];refine Dp hH hr HM.out oG (by kernel_rfl) λma=>?_
          ·rw[ma,ph.out];simp[ni,Act.put,gv,jV];clear hv hH ma;clear d0 d1 d2 d3 d4 d5 d6 d7;go_wp2_with fail;go_roundw
           case measure=>simp[intOf] <;> omega
           case rel=>
            refine⟨k+1,m+1,A8,c8,_,by omega,by go_num,rfl,jq (by rw[sS.out,HH.out,List.length_append,dK.out];rfl),jq (λj hj=>?_),jq (by rw[sS.out,HH.out];exact H8.out.1),Pj⟩;rcases hj with hj | hj
            ·have:=Ef.out j hj;omega
            ·have:=H8.out.1.lt j hj;exact this
end
section
open Go.RowKit Go.Shelf
theorem Lc{w:World}{b:Nat}{zs sn:ByteArray}{x:Np.Held}{dA:Option Addr}{dn dc:Nat}{gA:Option Addr}{gn gc:Nat}(hc:qE w b [.string zs,.string sn,.int .i64 x.signed.set.type,.int .i64 x.signed.set.life,.slice dA dn dc,.slice gA gn gc,.slice none 0 0,.slice none 0 0])(hb:b<w.heap.size)(hz:zs.data.toList=x.zone)(lF:zs.size<=140737488355328)(hn:sn.data.toList=x.signed.set.name)(j8:sn.size<=140737488355328)(hd:SlR bW 3 w w.heap.size (.slice dA dn dc) x.signed.set.data)(hg:SlR cV 6 w w.heap.size (.slice gA gn gc) x.signed.sigs) :
 SlR ea 8 w w.heap.size (.slice (some ⟨b,0,none⟩) 1 1) [⟨x.zone,x.signed,[],[]⟩]:=by
 refine⟨some ⟨b,0,none⟩,1,rfl,by simp,by simp,λi y hy=>?_⟩
 match i,hy with
 | 0,hy=>
  simp only[List.getElem?_cons_zero,Option.some.injEq] at hy;subst hy;exact⟨b,0,_,rfl,hb,rfl,λj v hj=>by have:=hc j v hj;simpa using this,zs,sn,_,_,_,_,rfl,hz,lF,hn,j8,hd,hg,Dd _ _ _ _,Dd _ _ _ _⟩
 | i+1,hy=>simp at hy
structure QO(w:World)(B b p:Nat)(x:Np.Held)(zs sn:ByteArray)(dA:Option Addr)(dn dc:Nat)(gA:Option Addr)(gn gc:Nat)(fA:Option Addr)(fn fc:Nat)(pA:Option Addr)(pn pc:Nat):Prop where
 zone:zs.data.toList=x.zone
 zsize:zs.size<=140737488355328
 name:sn.data.toList=x.signed.set.name
 size:sn.size<=140737488355328
 data:SlR bW 3 w B (.slice dA dn dc) x.signed.set.data
 sigs:SlR cV 6 w B (.slice gA gn gc) x.signed.sigs
 fresh:SlR cB 2 w B (.slice fA fn fc) x.fresh
 spans:SlR cB 2 w B (.slice pA pn pc) x.spans
 cells:∀ i v,[Value.string zs,.string sn,.int .i64 x.signed.set.type,.int .i64 x.signed.set.life,.slice dA dn dc,.slice gA gn gc,.slice fA fn fc,.slice pA pn pc][i]?=some v->w.cell? ⟨b,p+i,none⟩=some v
 lt:b<B
theorem Cg{w:World}{B n c:Nat}{A:Option Addr}{xs:List Np.Held}(h:SlR ea 8 w B (.slice A n c) xs){k:Nat}{x:Np.Held}(hx:xs[k]?=some x):∃ b p zs sn dA dn dc gA gn gc fA fn fc pA pn pc,A=some ⟨b,p,none⟩/\QO w B b (p+k * 8) x zs sn dA dn dc gA gn gc fA fn fc pA pn pc:=by
 obtain⟨A',c',hA',_,_,aC⟩:=h;simp only[Value.slice.injEq] at hA';obtain⟨rfl,-,rfl⟩:=hA';obtain⟨b,p,ec,rfl,bq,_,hce,zs,sn,dv,sv,fv,pv,rfl,qw,lF,aw,j8,aR,aN,jY,kA⟩:=aC k x hx;obtain⟨dA,dn,dc,rfl,_,_,_⟩:=o4 aR;obtain⟨gA,gn,gc,rfl,_,_,_⟩:=o4 aN;obtain⟨fA,fn,fc,rfl,_,_,_⟩:=o4 jY;obtain⟨pA,pn,pc,rfl,_,_,_⟩:=o4 kA;exact⟨b,p,zs,sn,dA,dn,dc,gA,gn,gc,fA,fn,fc,pA,pn,pc,rfl,qw,lF,aw,j8,aR,aN,jY,kA,λi v hi=>hce i v hi,bq⟩
theorem SH(e:List Value)(h:Np.Hist)(wh tt:Int)(Vi:0<=wh/\wh<65536)(Va:0<=tt/\tt<4294967296)(w:World)(hV:kj w.heap.size w)(hh:jg w w.heap.size e h)(hs:Np.lS h):Calls prog 10 #[.agg e.toArray,.int .u16 wh,.int .u32 tt] w λe w'=>e = .returned (.bool true)/\Below w.heap.size w w':=by
 obtain⟨A1,n1,c1,A2,n2,c2,s,ty,lf,A3,n3,c3,A4,n4,c4,dr,st,rfl,-,-,-,-,-⟩:=G4 hh;have pp:Hid (h.drift=dr/\h.stop=st):=jq (by
  obtain⟨hv,cv,s',dv,cX,he,_⟩:=hh;simp only[List.cons.injEq,Value.int.injEq,true_and,and_true] at he;exact⟨he.2.2.2.2.2.2.2.1.symm,he.2.2.2.2.2.2.2.2.symm⟩)
 have xy:=jq hs;obtain⟨X,hX⟩:=abK w.heap.size;obtain⟨w1,ak⟩:=abK (w.alloc (.cells #[.slice A1 n1 c1,.slice A2 n2 c2,.string s,.int .i64 ty,.int .i64 lf,.slice A3 n3 c3,.slice A4 n4 c4,.int .i64 dr,.int .i64 st] 29));have bg:w1.heap.size=X+1:=by rw[<-ak,<-hX];simp
 have hb:Below w.heap.size w w1:=by rw[<-ak];exact (vQ _ _).alloc (bQ _) _
 have az:=jq hb;have gJ:=jq (hV.next hb);have PI:Hid (jg w1 w1.heap.size [.slice A1 n1 c1,.slice A2 n2 c2,.string s,.int .i64 ty,.int .i64 lf,.slice A3 n3 c3,.slice A4 n4 c4,.int .i64 dr,.int .i64 st] h):=jq (rW _ _ _ _ _ (rV _ _ _ _ _ hh hb) hb.size);have dg:Hid (qE w1 X [.slice A1 n1 c1,.slice A2 n2 c2,.string s,.int .i64 ty,.int .i64 lf,.slice A3 n3 c3,.slice A4 n4 c4,.int .i64 dr,.int .i64 st]):=jq (oB _ _ hX ak);clear hb hV hh hs;have k0:=dg.out 0 _ rfl;have k1:=dg.out 1 _ rfl;have k2:=dg.out 2 _ rfl;have k3:=dg.out 3 _ rfl;have k4:=dg.out 4 _ rfl;have k5:=dg.out 5 _ rfl;have k6:=dg.out 6 _ rfl;have k7:=dg.out 7 _ rfl;have k8:=dg.out 8 _ rfl;go_enter func10,ntmps10;go_wp2_with fail;clear ak;refine (TN w1 gJ.out.rules).mono ?_;rintro e w2 ⟨rfl,hb⟩;have aO:=hb.size;have ar:=jq hb;have lP:=jq (gJ.out.next hb);have Iz:Hid (jg w2 w2.heap.size [.slice A1 n1 c1,.slice A2 n2 c2,.string s,.int .i64 ty,.int .i64 lf,.slice A3 n3 c3,.slice A4 n4 c4,.int .i64 dr,.int .i64 st] h):=jq (rW _ _ _ _ _ (rV _ _ _ _ _ PI.out hb) hb.size);have dJ:=jq (dg.out.keep hb (by omega));clear hb;replace k0:=dJ.out 0 _ rfl;replace k1:=dJ.out 1 _ rfl;replace k2:=dJ.out 2 _ rfl;replace k3:=dJ.out 3 _ rfl;replace k4:=dJ.out 4 _ rfl;replace k5:=dJ.out 5 _ rfl;replace k6:=dJ.out 6 _ rfl;replace k7:=dJ.out 7 _ rfl;replace k8:=dJ.out 8 _ rfl;go_wp2_with fail;refine (Sg _ h w2 Iz.out).mono ?_;rintro e w3 ⟨rfl,hb⟩;have fW:=hb.size;have ai:=jq hb;have xC:=jq (lP.out.next hb);have IA:Hid (jg w3 w3.heap.size [.slice A1 n1 c1,.slice A2 n2 c2,.string s,.int .i64 ty,.int .i64 lf,.slice A3 n3 c3,.slice A4 n4 c4,.int .i64 dr,.int .i64 st] h):=jq (rW _ _ _ _ _ (rV _ _ _ _ _ Iz.out hb) hb.size);have mx:=jq (dJ.out.keep hb (by omega));clear hb;replace k0:=mx.out 0 _ rfl;replace k1:=mx.out 1 _ rfl;replace k2:=mx.out 2 _ rfl;replace k3:=mx.out 3 _ rfl;replace k4:=mx.out 4 _ rfl;replace k5:=mx.out 5 _ rfl;replace k6:=mx.out 6 _ rfl;replace k7:=mx.out 7 _ rfl;replace k8:=mx.out 8 _ rfl;by_cases hU:Np.pg h
 case neg=>
  rw[Np.aK hU];have HE:=jq ((az.out.trans ((ar.out.trans (ai.out.acQ)).acQ)));go_wp2_with fail;exact bodyPost_ret (v:=.bool true) (by simp[results,results10,go_sem]) rfl ⟨rfl,by first | exact HE.out | (rw[<-hX];exact HE.out)⟩
 case pos=>
  rw[Np.bS hU];have IC:Hid (pu w3 [.slice A1 n1 c1,.slice A2 n2 c2,.string s,.int .i64 ty,.int .i64 lf,.slice A3 n3 c3,.slice A4 n4 c4,.int .i64 dr,.int .i64 st] h):=jq ⟨IA.out,hU.use,xy.out⟩;clear hU;go_wp2_with fail;refine (Rp _ h w3 IC.out).mono ?_;rintro e w4 ⟨rfl,hb⟩;have gX:=hb.size;have aB:=jq hb;have Bm:=jq (xC.out.next hb);have PJ:Hid (jg w4 w4.heap.size [.slice A1 n1 c1,.slice A2 n2 c2,.string s,.int .i64 ty,.int .i64 lf,.slice A3 n3 c3,.slice A4 n4 c4,.int .i64 dr,.int .i64 st] h):=jq (rW _ _ _ _ _ (rV _ _ _ _ _ IA.out hb) hb.size);have kg:=jq (mx.out.keep hb (by omega));have AW:=jq (IC.out.keep hb);clear hb;replace k0:=kg.out 0 _ rfl;replace k1:=kg.out 1 _ rfl;replace k2:=kg.out 2 _ rfl;replace k3:=kg.out 3 _ rfl;replace k4:=kg.out 4 _ rfl;replace k5:=kg.out 5 _ rfl;replace k6:=kg.out 6 _ rfl;replace k7:=kg.out 7 _ rfl;replace k8:=kg.out 8 _ rfl;by_cases eX:Np.VHist h
  case neg=>
   rw[Np.aK eX];have HE:=jq ((az.out.trans ((ar.out.trans ((ai.out.trans (aB.out.acQ)).acQ)).acQ)));go_wp2_with fail;exact bodyPost_ret (v:=.bool true) (by simp[results,results10,go_sem]) rfl ⟨rfl,by first | exact HE.out | (rw[<-hX];exact HE.out)⟩
  case pos=>
   rw[Np.bS eX];have kU:Hid (0<=dr/\dr<=1000):=jq (by rw[<-pp.out.1];exact eX.drift);have el:1<=st/\st<=10000000:=by rw[<-pp.out.2];exact eX.stop
   have uu:Hid (∀ x∈Np.gN h,Np.GapOk x):=jq (λx hx=>Np.JI eX AW.out.use hx);have ct:(Np.gN h).length<=2100:=by unfold Np.gN;rw[List.length_map];exact AW.out.use.pubAll
   have xk:Hid (∀ x∈Np.gN h,∀ y∈Np.gN h,x.zone=y.zone->x.signed=y.signed->x=y):=jq (λx hx y hy=>Np.Q1 hx hy);have wE:=jq (Np.xN eX);have lL:Hid (Np.qY h=(0,Np.dt dr (Np.gN h))):=jq (by unfold Np.qY;rw[Np.xN eX,pp.out.1]);obtain⟨l,ro⟩:=abK (Np.gN h);rw[ro] at uu xk wE lL ct;clear eX ro;go_wp2_with fail;refine (JX _ h w4 Bm.out AW.out).mono ?_;rw[wE.out];dsimp only;rintro e w5 ⟨Aa,na,ca,rfl,mU,har,hb⟩;have EB:=jq (har.all nk);have ic:=jq mU;clear har;have kJ:=hb.size;have bJ:=jq hb;have Bn:=jq (Bm.out.next hb);have PK:Hid (jg w5 w5.heap.size [.slice A1 n1 c1,.slice A2 n2 c2,.string s,.int .i64 ty,.int .i64 lf,.slice A3 n3 c3,.slice A4 n4 c4,.int .i64 dr,.int .i64 st] h):=jq (rW _ _ _ _ _ (rV _ _ _ _ _ PJ.out hb) hb.size);have eI:=jq (kg.out.keep hb (by omega));have ID:=jq (AW.out.keep hb);clear hb;replace k0:=eI.out 0 _ rfl;replace k1:=eI.out 1 _ rfl;replace k2:=eI.out 2 _ rfl;replace k3:=eI.out 3 _ rfl;replace k4:=eI.out 4 _ rfl;replace k5:=eI.out 5 _ rfl;replace k6:=eI.out 6 _ rfl;replace k7:=eI.out 7 _ rfl;replace k8:=eI.out 8 _ rfl;go_wp2_with fail;rw[mU] at ct;clear mU;refine (SJ _ h w5 Bn.out ID.out).mono ?_;rw[lL.out];dsimp only;rintro e w6 ⟨Ag,m,cg,rfl,Cp,LT,hb⟩;have ED:=jq LT;have Ba:=jq Cp;have gV:m<=2100:=by rw[<-Cp];have h1:=Np.BO dr l;have:=ic.out;omega
   clear LT Cp;have EC:=jq (EB.out.later jA iD hb);have ke:=hb.size;have cO:=jq hb;have QA:=jq (Bn.out.next hb);have HH6:Hid (jg w6 w6.heap.size [.slice A1 n1 c1,.slice A2 n2 c2,.string s,.int .i64 ty,.int .i64 lf,.slice A3 n3 c3,.slice A4 n4 c4,.int .i64 dr,.int .i64 st] h):=jq (rW _ _ _ _ _ (rV _ _ _ _ _ PK.out hb) hb.size);have iH:=jq (eI.out.keep hb (by omega));have HI6:=jq (ID.out.keep hb);clear hb;replace k0:=iH.out 0 _ rfl;replace k1:=iH.out 1 _ rfl;replace k2:=iH.out 2 _ rfl;replace k3:=iH.out 3 _ rfl;replace k4:=iH.out 4 _ rfl;replace k5:=iH.out 5 _ rfl;replace k6:=iH.out 6 _ rfl;replace k7:=iH.out 7 _ rfl;replace k8:=iH.out 8 _ rfl;have ky:na<=ca:=by
    obtain⟨A',c',h1,h2,_⟩:=aj EC.out;simp only[Value.slice.injEq] at h1;omega
   have hmc:m<=cg:=by
    obtain⟨A',c',h1,h2,_⟩:=aj ED.out;simp only[Value.slice.injEq] at h1;omega
   go_wp2_with fail;go_loopw [12,59] (λvn vi wr=>∃ k:Nat,k<=na/\vi = .int .i64 k/\vn = .int .i64 ((Np.dt dr (l.take k)).length:Nat)/\Hid (Below w6.heap.size w6 wr)) (λ_ vi _=>na - (intOf vi).toNat)
   case atStart=>exact⟨0,jQ _,rfl,rfl,jq (vQ _ _)⟩
   case round=>
    obtain⟨k,hk,rfl,rfl,cF⟩:=hrel;have al:=cF.out.size;obtain⟨nx,ru⟩:=abK ((Np.dt dr (l.take k)).length);rw[ru];have apJ:nx<=2100:=by rw[<-ru];have h1:=Np.BO dr (l.take k);rw[List.length_take] at h1;omega
    have cJ:=jq ru;clear ru;by_cases aa:k<na
    case pos=>
     obtain⟨x,ac⟩:∃ x,l[k]?=some x:=⟨_,aQ (by rw[ic.out];exact aa)⟩;have fD:=jq (uu.out x (gQ ac));have sS:Hid (Np.dt dr (l.take (k+1))=Np.dt dr (l.take k)++Np.ji dr x):=jq (by rw[Hk ac,Np.Ky]);have HAT:Hid (Np.fN dr x≠[]->(Np.dt dr l)[nx]?=some { x with spans:=Np.fN dr x }):=jq (λhn=>by rw[<-cJ.out];exact Np.SI ac hn);obtain⟨b,p,zs,sn,dA,dn,dc,gA,gn,gc,fA,fn,fc,pA,pn,pc,rfl,aC⟩:=Cg (EC.out.later jA iD cF.out) ac;have fC:=jq aC;have bq:=aC.lt;have f0:wr.cell? ⟨b,p+k * 8,none⟩=some _:=aC.cells 0 _ rfl;have f1:wr.cell? ⟨b,p+k * 8+1,none⟩=some _:=aC.cells 1 _ rfl;have f2:wr.cell? ⟨b,p+k * 8+2,none⟩=some _:=aC.cells 2 _ rfl;have f3:wr.cell? ⟨b,p+k * 8+3,none⟩=some _:=aC.cells 3 _ rfl;have f4:wr.cell? ⟨b,p+k * 8+4,none⟩=some _:=aC.cells 4 _ rfl;have f5:wr.cell? ⟨b,p+k * 8+5,none⟩=some _:=aC.cells 5 _ rfl;have f6:wr.cell? ⟨b,p+k * 8+6,none⟩=some _:=aC.cells 6 _ rfl;have f7:wr.cell? ⟨b,p+k * 8+7,none⟩=some _:=aC.cells 7 _ rfl;have xx:Hid ((⟨⟨sn.data.toList,x.signed.set.type,x.signed.set.life,x.signed.set.data⟩,x.signed.sigs⟩:Np.Signed)=x.signed):=jq (by rw[aC.name]);have wR:Hid (x.signed.sigs.length=gn):=jq (by
      obtain⟨A',c',h1,_⟩:=aj aC.sigs;simp only[Value.slice.injEq] at h1;exact h1.2.1.symm)
     have bL:(0:Int)<=(k:Int):=by omega
     have bY:(k:Int)<(na:Int):=by omega
     obtain⟨E,hE⟩:=abK wr.heap.size;obtain⟨wa,iw⟩:=abK (wr.alloc (.cells #[.string zs,.string sn,.int .i64 x.signed.set.type,.int .i64 x.signed.set.life,.slice dA dn dc,.slice gA gn gc,.slice fA fn fc,.slice pA pn pc] 57));have fR:Below wr.heap.size wr wa:=by rw[<-iw];exact (vQ _ _).alloc (bQ _) _
     have Vx:wa.heap.size=E+1:=by rw[<-iw,<-hE];simp
     have ia:=jq (oB _ _ hE iw);have um:=jq fR;have gm:=jq ((iH.out.keep cF.out (by omega)).keep fR (by omega));have QF:=jq ((QA.out.next cF.out).next fR);clear k0 k1 k2 k3 k4 k5 k6 k7 k8;have k0:=gm.out 0 _ rfl;have k1:=gm.out 1 _ rfl;have k2:=gm.out 2 _ rfl;have k3:=gm.out 3 _ rfl;have k4:=gm.out 4 _ rfl;have k5:=gm.out 5 _ rfl;have k6:=gm.out 6 _ rfl;have k7:=gm.out 7 _ rfl;have k8:=gm.out 8 _ rfl;have d0:=ia.out 0 _ rfl;have d1:=ia.out 1 _ rfl;have d2:=ia.out 2 _ rfl;have d3:=ia.out 3 _ rfl;have d4:=ia.out 4 _ rfl;have d5:=ia.out 5 _ rfl;have d6:=ia.out 6 _ rfl;have d7:=ia.out 7 _ rfl;clear ac aC fR;go_wp2_with fail;clear iw f0 f1 f2 f3 f4 f5 f6 f7;refine (Am sn fC.out.size x.signed.set.type x.signed.set.life _ _ x.signed.set.data x.signed.sigs dr 20000000 wa QF.out.rules (fC.out.data.later cu cS um.out) (fC.out.sigs.later cT dU um.out)).mono ?_;rw[xx.out,Np.An fD.out.plain kU.out];rintro e wb ⟨vb,rfl,kB,l3⟩;obtain⟨Ab,nb,cb,rfl,kx,_,_⟩:=o4 kB;have mY:=l3.size;have sP:=jq kB;have wI:=abJ um l3;have go:=jq (gm.out.keep l3 (by omega));have ib:=jq (ia.out.keep l3 (by omega));clear k0 k1 k2 k3 k4 k5 k6 k7 k8;clear d0 d1 d2 d3 d4 d5 d6 d7;have k0:=go.out 0 _ rfl;have k1:=go.out 1 _ rfl;have k2:=go.out 2 _ rfl;have k3:=go.out 3 _ rfl;have k4:=go.out 4 _ rfl;have k5:=go.out 5 _ rfl;have k6:=go.out 6 _ rfl;have k7:=go.out 7 _ rfl;have k8:=go.out 8 _ rfl;have d0:=ib.out 0 _ rfl;have d1:=ib.out 1 _ rfl;have d2:=ib.out 2 _ rfl;have d3:=ib.out 3 _ rfl;have d4:=ib.out 4 _ rfl;have d5:=ib.out 5 _ rfl;have d6:=ib.out 6 _ rfl;have d7:=ib.out 7 _ rfl;clear kB l3 kx;go_wp2_with fail;refine (MK pA Ab pn pc nb cb x.spans (Np.fl x.signed dr 20000000) fD.out.valid (Np.uc fD.out.plain kU.out).1 fD.out.few (Np.uc fD.out.plain kU.out).2 wb (fC.out.spans.later bR dZ wI.out) sP.out).mono ?_;rintro e wc ⟨vc,rfl,vB,pT⟩;replace vB:aG wb.heap.size wc vc (Np.fN dr x):=vB;obtain⟨gp,p7⟩:=abK (Np.fN dr x);have pt:Hid (gp.length<=18000):=jq (by rw[<-p7];exact Np.Kv fD.out kU.out);rw[p7] at vB;obtain⟨n7,tG⟩:=abK gp.length;obtain⟨A7,c7,rfl⟩:∃ A c,vc = .slice A n7 c:=by rw[<-tG];exact vB.form
     have oq:=jq (And.intro p7 tG);have Em:Hid (SlR cB 2 wc wc.heap.size (.slice A7 n7 c7) gp):=jq (vB.slr (by have:=pt.out;omega));have GK:=pT.size;have wJ:=abJ wI pT;have HCc:=jq (go.out.keep pT (by omega));have jd:=jq (ib.out.keep pT (by omega));clear k0 k1 k2 k3 k4 k5 k6 k7 k8;clear d0 d1 d2 d3 d4 d5 d6 d7;clear vB pT p7 tG;have aL:Hid (Below w6.heap.size w6 wc):=abJ cF wJ.out;by_cases kw:n7=0
     case pos=>
      subst kw;have HH:Hid (Np.ji dr x = []):=jq (by unfold Np.ji;rw[oq.out.1,Qb (rQ oq.out.2)]);go_wp2_with fail;go_roundw
      case measure=>simp[intOf] <;> omega
      case rel=>exact⟨k+1,by omega,by go_num,by rw[sS.out,HH.out,List.append_nil,cJ.out],aL⟩
     case neg=>
      have ie:Hid (Np.fN dr x≠[]):=jq (λhq=>kw (by rw[<-oq.out.2,<-oq.out.1,hq];rfl));have HH:Hid ((Np.ji dr x).length=1):=jq (by unfold Np.ji;rw[Qc ie.out];rfl);have atZ:((n7:Int) == 0)=false:=by simpa using kw
      have atJ:(n7 == 0)=false:=by simpa using kw
      have atK:decide ((n7:Int)=0)=false:=acJ;have Ci:=HAT.out ie.out;rw[oq.out.1] at Ci;have apK:nx<m:=by have:=(cQ.1 Ci).1;rwa [Ba.out] at this
      have nR:decide ((m:Int)<=(nx:Int))=false:=acJ;have aiJ:decide (m<=nx)=false:=acJ;have ip:¬ gn=0:=λhq=>ie.out (Np.SF fD.out kU.out (rQ (by rw[wR.out];exact hq)));have aiX:((gn:Int) == 0)=false:=by simpa using ip
      have aiY:(gn == 0)=false:=by simpa using ip
      obtain⟨b2,p2,zs2,sn2,dA2,dn2,dc2,gA2,gn2,gc2,fA2,fn2,fc2,pA2,pn2,pc2,rfl,gg⟩:=Cg (ED.out.later jA iD aL.out) Ci;have mA:=jq gg;have B7:=gg.lt;obtain rfl:zs2=zs:=jD (by rw[gg.zone,fC.out.zone]);have oP:wc.cell? ⟨b2,p2+nx * 8,none⟩=some (.string zs2):=gg.cells 0 _ rfl;have hy6:wc.cell? ⟨b2,p2+nx * 8+6,none⟩=some (.slice fA2 fn2 fc2):=gg.cells 6 _ rfl;have hy7:wc.cell? ⟨b2,p2+nx * 8+7,none⟩=some (.slice pA2 pn2 pc2):=gg.cells 7 _ rfl;have apQ:(0:Int)<=(nx:Int):=by omega
      have apZ:(nx:Int)<(m:Int):=by omega
      have avQ:(zs2.toList == zs2.toList)=true:=by simp
      have nP:∀ (g:bi wc) (q:Addr),q.block<wc.heap.size->g.w.cell? q=wc.cell? q:=λg q h=>g.cell q h;have yC:∀ g:bi wc,Calls prog 21 #[.slice pA2 pn2 pc2,.slice A7 n7 c7] g.w λe w'=>e = .returned (.bool true)/\Below g.w.heap.size g.w w':=λg=>
       (vU _ _ gp gp g.w (mA.out.spans.later bR dZ g.below) (Em.out.later bR dZ g.below)).mono λe w' h=>⟨by rw[h.1];simp,h.2⟩
      have yB:∀ g:bi wc,Calls prog 21 #[.slice fA2 fn2 fc2,.slice fA fn fc] g.w λe w'=>e = .returned (.bool true)/\Below g.w.heap.size g.w w':=λg=>
       (vU _ _ x.fresh x.fresh g.w (mA.out.fresh.later bR dZ g.below) ((fC.out.fresh.later bR dZ wJ.out).later bR dZ g.below)).mono λe w' h=>⟨by rw[h.1];simp,h.2⟩
      have DR:=jq yC;have DQ:=jq yB;have d0:=jd.out 0 _ rfl;have d1:=jd.out 1 _ rfl;have d2:=jd.out 2 _ rfl;have d3:=jd.out 3 _ rfl;have d4:=jd.out 4 _ rfl;have d5:=jd.out 5 _ rfl;have d6:=jd.out 6 _ rfl;have d7:=jd.out 7 _ rfl;have S8:E<wc.heap.size:=by omega
      have agQ:b2<wc.heap.size:=B7;clear yC yB Ci gg;go_wp2_with fail;refine adX ?_
      repeat (go_big_quiet_step (fail))
      go_big_quiet_step ((go_at_call 21;exact Calls.grow_of (DR.out _)))
      repeat (go_big_quiet_step (fail))
      go_big_quiet_step ((go_at_call 21;exact Calls.grow_of (DQ.out _)))
      repeat (go_big_quiet_step (fail))
      refine wpQuiet_nil ?_;rintro _ ⟨g,rfl⟩;go_wp2_with fail;go_roundw
      case measure=>simp[intOf] <;> omega
      case rel=>exact⟨k+1,by omega,by go_num,by rw[sS.out,List.length_append,cJ.out,HH.out];go_num,jq (aL.out.trans (g.below.mono aL.out.size))⟩
    case neg=>
     obtain rfl:k=na:=by omega
     have tJ:nx=m:=by rw[<-cJ.out,<-Ba.out,kQ (by rw[ic.out];omega)]
     subst tJ;have qH:Hid (Below w.heap.size w wr):=jq (((az.out.trans ((ar.out.trans ((ai.out.trans ((aB.out.trans ((bJ.out.trans (cO.out.acQ)).acQ)).acQ)).acQ)).acQ))).trans (cF.out.acQ));have gS:(nx != nx)=false:=by simp
     have B8:((nx:Int) != (nx:Int))=false:=by simp
     have bT:((nx:Int) == (nx:Int))=true:=by simp
     by_cases jn:k=0
     case pos=>
      subst jn;go_wp2_with fail;exact bodyPost_ret (v:=.bool true) (by simp[results,results10,go_sem]) rfl ⟨rfl,by first | exact qH.out | (rw[<-hX];exact qH.out)⟩
     case neg=>
      have n1:((k:Int) == 0)=false:=by simpa using jn
      have n2:(k == 0)=false:=by simpa using jn
      have n3:decide ((k:Int)=0)=false:=acJ;have n4:decide ((0:Int)<(k:Int))=true:=acK;have n5:0<k:=by omega
      obtain⟨kk,Up⟩:=abK (wh.tmod (k:Int));have Cn:0<=kk/\kk<k:=by
       rw[<-Up];exact⟨Int.tmod_nonneg _ Vi.1,Int.tmod_lt_of_pos wh (by omega)⟩
      obtain⟨q,hq⟩:∃ q:Nat,kk=(q:Int):=⟨kk.toNat,by omega⟩;subst hq;have LP:q<k:=by omega
      obtain⟨t,ht⟩:=abK (tt.tmod (2 * st));have htb:0<=t/\t<2 * st:=by
       rw[<-ht];exact⟨Int.tmod_nonneg _ Va.1,Int.tmod_lt_of_pos tt (by omega)⟩
      have aqY:(2 * st == 0)=false:=by simp;omega
      have arQ:¬ 2 * st=0:=by omega
      obtain⟨x,ac⟩:∃ x,l[q]?=some x:=⟨_,aQ (by rw[ic.out];exact LP)⟩;have fD:=jq (uu.out x (gQ ac));have pr:Hid ((Np.dt dr l).any (Np.jU x t)=Np.o6 (Np.fN dr x) t):=jq (Np.SK xk.out (gQ ac));obtain⟨b,p,zs,sn,dA,dn,dc,gA,gn,gc,fA,fn,fc,pA,pn,pc,rfl,aC⟩:=Cg (EC.out.later jA iD cF.out) ac;have fC:=jq aC;have bq:=aC.lt;have f0:wr.cell? ⟨b,p+q * 8,none⟩=some _:=aC.cells 0 _ rfl;have f1:wr.cell? ⟨b,p+q * 8+1,none⟩=some _:=aC.cells 1 _ rfl;have f2:wr.cell? ⟨b,p+q * 8+2,none⟩=some _:=aC.cells 2 _ rfl;have f3:wr.cell? ⟨b,p+q * 8+3,none⟩=some _:=aC.cells 3 _ rfl;have f4:wr.cell? ⟨b,p+q * 8+4,none⟩=some _:=aC.cells 4 _ rfl;have f5:wr.cell? ⟨b,p+q * 8+5,none⟩=some _:=aC.cells 5 _ rfl;have f6:wr.cell? ⟨b,p+q * 8+6,none⟩=some _:=aC.cells 6 _ rfl;have f7:wr.cell? ⟨b,p+q * 8+7,none⟩=some _:=aC.cells 7 _ rfl;have wR:Hid (x.signed.sigs.length=gn):=jq (by
       obtain⟨A',c',h1,_⟩:=aj aC.sigs;simp only[Value.slice.injEq] at h1;exact h1.2.1.symm)
      have bL:(0:Int)<=(q:Int):=by omega
      have bY:(q:Int)<(k:Int):=by omega
      obtain⟨E,hE⟩:=abK wr.heap.size;obtain⟨wa,iw⟩:=abK (wr.alloc (.cells #[.string zs,.string sn,.int .i64 x.signed.set.type,.int .i64 x.signed.set.life,.slice dA dn dc,.slice gA gn gc,.slice fA fn fc,.slice pA pn pc] 57));have fR:Below wr.heap.size wr wa:=by rw[<-iw];exact (vQ _ _).alloc (bQ _) _
      have Vx:wa.heap.size=E+1:=by rw[<-iw,<-hE];simp
      have ia:=jq (oB _ _ hE iw);have um:=jq fR;have gm:=jq ((iH.out.keep cF.out (by omega)).keep fR (by omega));clear k0 k1 k2 k3 k4 k5 k6 k7 k8;have k0:=gm.out 0 _ rfl;have k1:=gm.out 1 _ rfl;have k2:=gm.out 2 _ rfl;have k3:=gm.out 3 _ rfl;have k4:=gm.out 4 _ rfl;have k5:=gm.out 5 _ rfl;have k6:=gm.out 6 _ rfl;have k7:=gm.out 7 _ rfl;have k8:=gm.out 8 _ rfl;have d0:=ia.out 0 _ rfl;have d1:=ia.out 1 _ rfl;have d2:=ia.out 2 _ rfl;have d3:=ia.out 3 _ rfl;have d4:=ia.out 4 _ rfl;have d5:=ia.out 5 _ rfl;have d6:=ia.out 6 _ rfl;have d7:=ia.out 7 _ rfl;clear ac aC fR;go_wp2_with fail;clear iw f0 f1 f2 f3 f4 f5 f6 f7;refine (KZ _ x.spans t wa (fC.out.spans.later bR dZ um.out)).mono ?_;rintro e wb ⟨rfl,l3⟩;have mY:=l3.size;have wI:=abJ um l3;have go:=jq (gm.out.keep l3 (by omega));have ib:=jq (ia.out.keep l3 (by omega));clear k0 k1 k2 k3 k4 k5 k6 k7 k8;clear d0 d1 d2 d3 d4 d5 d6 d7;have k0:=go.out 0 _ rfl;have k1:=go.out 1 _ rfl;have k2:=go.out 2 _ rfl;have k3:=go.out 3 _ rfl;have k4:=go.out 4 _ rfl;have k5:=go.out 5 _ rfl;have k6:=go.out 6 _ rfl;have k7:=go.out 7 _ rfl;have k8:=go.out 8 _ rfl;have d0:=ib.out 0 _ rfl;have d1:=ib.out 1 _ rfl;have d2:=ib.out 2 _ rfl;have d3:=ib.out 3 _ rfl;have d4:=ib.out 4 _ rfl;have d5:=ib.out 5 _ rfl;have d6:=ib.out 6 _ rfl;have d7:=ib.out 7 _ rfl;clear l3;have uo:Hid (Below w.heap.size w wb):=jq (qH.out.trans (wI.out.mono (by have:=qH.out.size;omega)))
      cases F3:Np.o6 x.spans t with
      | false=>
       clear F3;go_wp2_with fail;exact bodyPost_ret (v:=.bool true) (by simp[results,results10,go_sem]) rfl ⟨rfl,by first | exact uo.out | (rw[<-hX];exact uo.out)⟩
      | true=>
       have PL:=jq F3;clear F3;by_cases kw:gn=0
       case pos=>
        subst kw;go_wp2_with fail;exact bodyPost_ret (v:=.bool true) (by simp[results,results10,go_sem]) rfl ⟨rfl,by first | exact uo.out | (rw[<-hX];exact uo.out)⟩
       case neg=>
        have pZ:((gn:Int) == 0)=false:=by simpa using kw
        have yM:(gn == 0)=false:=by simpa using kw
        go_wp2_with fail;obtain⟨wv,rfl⟩:=abX wr;go_loopw [21,177] (λvf vi wr=>∃ j:Nat,j<=nx/\vi = .int .i64 j/\vf = .bool (((Np.dt dr l).take j).any (Np.jU x t))/\Hid (Below wb.heap.size wb wr)) (λ_ vi _=>nx - (intOf vi).toNat)
        case atStart=>exact⟨0,jQ _,rfl,rfl,jq (vQ _ _)⟩
        case round=>
         obtain⟨j,hj,rfl,rfl,sw⟩:=hrel;have CB:=sw.out.size;have pj:=jq (go.out.keep sw.out (by omega));have pq:=jq (ib.out.keep sw.out (by omega));have AJ:Hid (Below wv.heap.size wv wr):=abJ wI sw.out;have O2:Hid (Below w6.heap.size w6 wr):=abJ cF AJ.out;have hEz:E<wr.heap.size:=by omega
         clear k0 k1 k2 k3 k4 k5 k6 k7 k8;clear d0 d1 d2 d3 d4 d5 d6 d7;by_cases lC:j<nx
         case pos=>
          obtain⟨y,cn⟩:∃ y,(Np.dt dr l)[j]?=some y:=⟨_,aQ (by rw[Ba.out];exact lC)⟩;have sR:Hid (((Np.dt dr l).take (j+1)).any (Np.jU x t)=(((Np.dt dr l).take j).any (Np.jU x t)||Np.jU x t y)):=jq (by rw[Hk cn,List.any_append];simp);obtain⟨b2,p2,zs2,sn2,dA2,dn2,dc2,gA2,gn2,gc2,fA2,fn2,fc2,pA2,pn2,pc2,rfl,gg⟩:=Cg (ED.out.later jA iD O2.out) cn;have mA:=jq gg;have B7:=gg.lt;have f0:wr.cell? ⟨b2,p2+j * 8,none⟩=some _:=gg.cells 0 _ rfl;have f1:wr.cell? ⟨b2,p2+j * 8+1,none⟩=some _:=gg.cells 1 _ rfl;have f2:wr.cell? ⟨b2,p2+j * 8+2,none⟩=some _:=gg.cells 2 _ rfl;have f3:wr.cell? ⟨b2,p2+j * 8+3,none⟩=some _:=gg.cells 3 _ rfl;have f4:wr.cell? ⟨b2,p2+j * 8+4,none⟩=some _:=gg.cells 4 _ rfl;have f5:wr.cell? ⟨b2,p2+j * 8+5,none⟩=some _:=gg.cells 5 _ rfl;have f6:wr.cell? ⟨b2,p2+j * 8+6,none⟩=some _:=gg.cells 6 _ rfl;have f7:wr.cell? ⟨b2,p2+j * 8+7,none⟩=some _:=gg.cells 7 _ rfl;have iS:(0:Int)<=(j:Int):=by omega
          have rl:(j:Int)<(nx:Int):=by omega
          obtain⟨G,hG⟩:=abK wr.heap.size;obtain⟨wc,GA⟩:=abK (wr.alloc (.cells #[.string zs2,.string sn2,.int .i64 y.signed.set.type,.int .i64 y.signed.set.life,.slice dA2 dn2 dc2,.slice gA2 gn2 gc2,.slice fA2 fn2 fc2,.slice pA2 pn2 pc2] 57));have pT:Below wr.heap.size wr wc:=by rw[<-GA];exact (vQ _ _).alloc (bQ _) _
          have GK:wc.heap.size=G+1:=by rw[<-GA,<-hG];simp
          have pJ:=jq (oB _ _ hG GA);have wJ:=jq pT;have jd:=jq (pq.out.keep pT (by omega));have S8:E<wc.heap.size:=by omega
          have hGc:G<wc.heap.size:=by omega
          have adZ:E<G+1:=by omega
          have adJ:¬ E=G+1:=by omega
          have d0:=jd.out 0 _ rfl;have d1:=jd.out 1 _ rfl;have d2:=jd.out 2 _ rfl;have d3:=jd.out 3 _ rfl;have d4:=jd.out 4 _ rfl;have d5:=jd.out 5 _ rfl;have d6:=jd.out 6 _ rfl;have d7:=jd.out 7 _ rfl;have y0:=pJ.out 0 _ rfl;have y1:=pJ.out 1 _ rfl;have y2:=pJ.out 2 _ rfl;have y3:=pJ.out 3 _ rfl;have y4:=pJ.out 4 _ rfl;have y5:=pJ.out 5 _ rfl;have y6:=pJ.out 6 _ rfl;have y7:=pJ.out 7 _ rfl;clear cn gg pT;obtain⟨fb,tr⟩:=abK (((Np.dt dr l).take j).any (Np.jU x t));have wO:=jq tr;rw[tr] at sR |-;clear tr;have Iq:Hid (Below wb.heap.size wb wc):=abJ sw wJ.out
          cases fb with
          | true=>
           go_wp2_with fail;go_roundw
           case measure=>simp[intOf] <;> omega
           case rel=>exact⟨j+1,by omega,by go_num,by rw[sR.out,Bool.true_or],jq (Iq.out)⟩
          | false=>
           by_cases lF:zs2=zs
           case neg=>
            have mY:(zs2.toList == zs.toList)=false:=beq_eq_false_iff_ne.2 (λh=>lF (jD (by rw[<-dQ,h,dQ])));have HP:Hid (Np.jU x t y=false):=jq (by
             unfold Np.jU;rw[tQ (λh=>lF (jD (by rw[mA.out.zone,fC.out.zone,h]))),Bool.false_and])
            go_wp2_with fail;go_roundw
            case measure=>simp[intOf] <;> omega
            case rel=>exact⟨j+1,by omega,by go_num,by rw[sR.out,HP.out,Bool.false_or],jq (Iq.out)⟩
           case pos=>
            subst lF;have mY:(zs2.toList == zs2.toList)=true:=by simp
            have EP:Hid (y.zone=x.zone):=jq (by rw[<-mA.out.zone,<-fC.out.zone]);obtain⟨wd,zH⟩:=abK ((wc.alloc (.cells #[.string zs2,.string sn2,.int .i64 y.signed.set.type,.int .i64 y.signed.set.life,.slice dA2 dn2 dc2,.slice gA2 gn2 gc2,.slice none 0 0,.slice none 0 0] 57)).alloc (.cells #[.string zs2,.string sn,.int .i64 x.signed.set.type,.int .i64 x.signed.set.life,.slice dA dn dc,.slice gA gn gc,.slice none 0 0,.slice none 0 0] 57));have hzd:wd.heap.size=G+3:=by rw[<-zH];simp;omega
            have l4:Below wc.heap.size wc wd:=by rw[<-zH];exact ((vQ _ _).alloc (bQ _) _).alloc (by simp) _
            have un:=abJ wJ l4;have AL:Hid (Below wb.heap.size wb wd):=abJ sw un.out;have QK:Hid (qE wd (G+1) [.string zs2,.string sn2,.int .i64 y.signed.set.type,.int .i64 y.signed.set.life,.slice dA2 dn2 dc2,.slice gA2 gn2 gc2,.slice none 0 0,.slice none 0 0]):=jq (by
             rw[<-zH,<-GK];exact (oB [.string zs2,.string sn2,.int .i64 y.signed.set.type,.int .i64 y.signed.set.life,.slice dA2 dn2 dc2,.slice gA2 gn2 gc2,.slice none 0 0,.slice none 0 0] 57 rfl rfl).keep ((vQ _ _).alloc (bQ _) _) (by simp))
            have EL:Hid (qE wd (G+1+1) [.string zs2,.string sn,.int .i64 x.signed.set.type,.int .i64 x.signed.set.life,.slice dA dn dc,.slice gA gn gc,.slice none 0 0,.slice none 0 0]):=jq (oB _ _ (by simp[GK]) zH);have QL:=jq (pJ.out.keep l4 (by omega));have HU:Hid (SlR ea 8 wd wd.heap.size (.slice (some ⟨G+1,0,none⟩) 1 1) [⟨y.zone,y.signed,[],[]⟩]):=jq (Lc QK.out (by omega) mA.out.zone mA.out.zsize mA.out.name mA.out.size (mA.out.data.later cu cS un.out) (mA.out.sigs.later cT dU un.out));have ox:Hid (SlR ea 8 wd wd.heap.size (.slice (some ⟨G+1+1,0,none⟩) 1 1) [⟨x.zone,x.signed,[],[]⟩]):=jq (Lc EL.out (by omega) fC.out.zone fC.out.zsize fC.out.name fC.out.size ((fC.out.data.later cu cS AJ.out).later cu cS un.out) ((fC.out.sigs.later cT dU AJ.out).later cT dU un.out));clear l4;go_wp2_with fail;clear zH;by_cases mX:y.signed=x.signed
            case neg=>
             have HP:Hid (Np.jU x t y=false):=jq (by unfold Np.jU;rw[tQ mX,Bool.false_and,Bool.and_false]);refine (YH _ _ ⟨y.zone,y.signed,[],[]⟩ ⟨x.zone,x.signed,[],[]⟩ EP.out mX wd HU.out ox.out).mono ?_;rintro e we ⟨rfl,bT⟩;have AM:Hid (Below wb.heap.size wb we):=jq (AL.out.trans (bT.mono (by have:=AL.out.size;omega)));clear bT;go_wp2_with fail;go_roundw
             case measure=>simp[intOf] <;> omega
             case rel=>exact⟨j+1,by omega,by go_num,by rw[sR.out,HP.out,Bool.false_or],jq (AM.out)⟩
            case pos=>
             have HP:Hid (Np.jU x t y=Np.o6 y.spans t):=jq (by unfold Np.jU;rw[uQ EP.out,uQ mX,Bool.true_and,Bool.true_and]);have QC:Hid (SlR ea 8 wd wd.heap.size (.slice (some ⟨G+1+1,0,none⟩) 1 1) [⟨y.zone,y.signed,[],[]⟩]):=jq (by rw[EP.out,mX];exact ox.out);refine (YI _ _ _ wd HU.out QC.out).mono ?_;rintro e we ⟨rfl,bT⟩;have hze:=bT.size;have Pn:=abJ un bT;have AM:Hid (Below wb.heap.size wb we):=jq (AL.out.trans (bT.mono (by have:=AL.out.size;omega)));have QM:=jq (QL.out.keep bT (by omega));clear bT y0 y1 y2 y3 y4 y5 y6 y7;have y7:=QM.out 7 _ rfl;go_wp2_with fail;refine (KZ _ y.spans t we (mA.out.spans.later bR dZ Pn.out)).mono ?_;rintro e wf ⟨rfl,ed⟩;have Pm:Hid (Below wb.heap.size wb wf):=jq (AM.out.trans (ed.mono (by have:=AM.out.size;omega)));clear ed;go_wp2_with fail;go_roundw
             case measure=>simp[intOf] <;> omega
             case rel=>exact⟨j+1,by omega,by go_num,by rw[sR.out,HP.out,Bool.false_or],jq (Pm.out)⟩
         case neg=>
          obtain rfl:j=nx:=by omega
          obtain⟨g,lu⟩:∃ g,x.signed.sigs[0]?=some g:=⟨_,aQ (by rw[wR.out];omega)⟩;obtain⟨fb,tr⟩:=abK (((Np.dt dr l).take j).any (Np.jU x t));have wO:Hid (fb=!(decide (g.frm<=t - dr)&&decide (t+dr<=g.til))):=jq (by
           rw[<-tr,kQ (by rw[Ba.out];exact bQ _),pr.out,Np.SE fD.out kU.out PL.out lu])
          have Vj:=Np.M6 fD.out.plain g lu;rw[tr];have kS:Hid (Below w.heap.size w wr):=jq (uo.out.trans (sw.out.mono (by have:=uo.out.size;omega)));obtain⟨b3,p3,z3,rfl,ah,a0,a1,a2,a3,a4,a5⟩:=YQ (fC.out.sigs.later cT dU AJ.out) lu;simp only[Nat.zero_mul,Nat.add_zero] at a0 a1 a2 a3 a4 a5;obtain⟨gz,gk,ga,gf,gt,gsum⟩:=g;dsimp only at a1 a2 a3 a4 a5 Vj wO;have k0:=pj.out 0 _ rfl;have k1:=pj.out 1 _ rfl;have k2:=pj.out 2 _ rfl;have k3:=pj.out 3 _ rfl;have k4:=pj.out 4 _ rfl;have k5:=pj.out 5 _ rfl;have k6:=pj.out 6 _ rfl;have k7:=pj.out 7 _ rfl;have k8:=pj.out 8 _ rfl;have d0:=pq.out 0 _ rfl;have d1:=pq.out 1 _ rfl;have d2:=pq.out 2 _ rfl;have d3:=pq.out 3 _ rfl;have d4:=pq.out 4 _ rfl;have d5:=pq.out 5 _ rfl;have d6:=pq.out 6 _ rfl;have d7:=pq.out 7 _ rfl;have aiK:(0:Int)<(gn:Int):=by omega
          have aiQ:=kU.out;have hXz:X<wr.heap.size:=by omega
          have afK:¬ X=wr.heap.size:=by omega
          have agZ:b3<wr.heap.size:=ah;clear tr lu;by_cases hA:gf<=t - dr
          case pos=>
           have hA':decide (gf<=t - dr)=true:=uQ hA;by_cases x9:t+dr<=gt
           case pos=>
            have hB':decide (t+dr<=gt)=true:=uQ x9;have iP:fb=false:=by rw[wO.out,hA',hB'];rfl
            subst iP;go_wp2_with fail;exact bodyPost_ret (v:=.bool true) (by simp[results,results10,go_sem]) rfl ⟨rfl,by first | exact (kS.out.alloc (by have:=kS.out.size;omega) _) | (rw[<-hX];exact (kS.out.alloc (by have:=kS.out.size;omega) _))⟩
           case neg=>
            have hB':decide (t+dr<=gt)=false:=tQ x9;have iP:fb=true:=by rw[wO.out,hA',hB'];rfl
            subst iP;go_wp2_with fail;exact bodyPost_ret (v:=.bool true) (by simp[results,results10,go_sem]) rfl ⟨rfl,by first | exact (kS.out.alloc (by have:=kS.out.size;omega) _) | (rw[<-hX];exact (kS.out.alloc (by have:=kS.out.size;omega) _))⟩
          case neg=>
           have hA':decide (gf<=t - dr)=false:=tQ hA;have iP:fb=true:=by rw[wO.out,hA'];rfl
           subst iP;go_wp2_with fail;exact bodyPost_ret (v:=.bool true) (by simp[results,results10,go_sem]) rfl ⟨rfl,by first | exact (kS.out.alloc (by have:=kS.out.size;omega) _) | (rw[<-hX];exact (kS.out.alloc (by have:=kS.out.size;omega) _))⟩
end
end Go.Proofs.YtfnopgdcaanaiaaGreatDoor
