/- Parts of the proof. No condition. -/
import Derived.Test.YtfnopgdcaanaiaaGreatDoorT32
import Derived.Test.YtfnopgdcaanaiaaGreatDoorT33
set_option linter.all false
set_option maxRecDepth 100000
set_option maxHeartbeats 8000000
namespace Go.Proofs.YtfnopgdcaanaiaaGreatDoor
open Go.Proofs.Tryz
section
open Go.RowKit Go.Shelf
attribute [local go_sem] Oper.semAt_some
theorem Vi(p q:Bool)(w:World):Calls prog 92 #[.bool p,.bool q] w λe w'=>e = .returned (.bool (p&&!q))/\w'=w:=by
 cases p <;> cases q
 all_goals
  go_enter func92,ntmps92;go_wp2_with fail;go_ret;exact⟨rfl,rfl⟩
section
variable {ops:Array Oper} {rest:List Oper} {o:Oper} {a:Act} {Q:Exit->Act->World->Prop}
theorem Yy{F:Fence}{n:Nat}(w:World)(fh:o.guard=none)(s x:Operand)(ho:o.op = .call { callee:=.builtin .append,args:=#[s,x],argTypes:=#[55,55] })
 (base:Nat) (v:Value) (ps:List Np.Span) (hs:a.eval s=v) (hown:av base w v ps) (blk:Nat) (f u:Int) (hx:a.eval x = .slice (some ⟨blk,0,none⟩) 1 1) (hc:w.cell? ⟨blk,0,none⟩=some (.int .i64 f)) (aT:w.cell? ⟨blk,1,none⟩=some (.int .i64 u)) (hlen:ps.length<=100000) (bL:base<=w.heap.size)
 (h:∀ v' w',av base w' v' (ps ++ [⟨f,u⟩])->w.grownBy w' v.ownBlock->(v'.ownBlock=v.ownBlock\/v'.ownBlock=some w.heap.size)->wpListIn F n prog ops Q rest (a.put o.dst v') w'):wpListIn F n prog ops Q (o::rest) a w:=by
 obtain⟨i0,hi,bd,aK,aC⟩:=info_parts Tryz.infoSpan;refine Mj w fh s x 55 ho base 110 i0 (.agg #[.int .i64 0,.int .i64 0]) 2 16 underlying55 hi bd aK aC rfl (by decide) v ps.length (ps.map dU).flatten hs hown ⟨blk,0,none⟩ 1 1 [.int .i64 f,.int .i64 u] hx rfl ?_ (by simp[Value.oneCell']) (by unfold maxLen;omega) (by omega) bL ?_
 ·intro j y hj
  match j,hj with
  | 0,hj=>simp at hj;subst hj;simpa [Addr.add] using hc
  | 1,hj=>simp at hj;subst hj;simpa [Addr.add] using aT
  | j+2,hj=>simp at hj
 ·intro v' w' ho' hg hat;refine h v' w' ?_ hg hat;have e:(ps ++ [(⟨f,u⟩:Np.Span)]).length=ps.length+1:=by simp
  unfold av;rw[e,List.map_append,List.flatten_append];exact ho'
end
theorem Np.Fb:∀ (l:List (Int×Bool×Bool)) (o:List Np.Span×Int),(l.foldl Np.ea o).1.length<=o.1.length+l.length
 | [],o=>by simp
 | e::l,o=>by
   rw[List.foldl_cons]
   have:=Np.Fb l (Np.ea o e)
   have h2:(Np.ea o e).1.length<=o.1.length+1:=by unfold Np.ea;split <;> split <;> simp
   simp only[List.length_cons];omega
theorem Np.Vm:∀ (n:Nat) (xs ys:List Int) (p q:Bool),xs.length+ys.length<=n->(Np.mrg xs ys p q).length<=n:=by
 intro n
 induction n with
 | zero=>
  intro xs ys p q h;obtain rfl:xs = []:=rQ (by omega);obtain rfl:ys = []:=rQ (by omega);rw[Np.mrg];simp
 | succ n ih=>
  intro xs ys p q h
  match xs,ys,h with
  | [],[],h=>rw[Np.mrg];simp
  | x::xs,[],h=>rw[Np.mrg,List.length_cons];have:=ih xs [] (!p) q (by simp at h |-;omega);omega
  | [],y::ys,h=>rw[Np.mrg,List.length_cons];have:=ih [] ys p (!q) (by simp at h |-;omega);omega
  | x::xs,y::ys,h=>
   simp only[List.length_cons] at h;rw[Np.mrg];split
   ·rw[List.length_cons];have:=ih xs (y::ys) (!p) q (by simp only[List.length_cons];omega);omega
   ·split
    ·rw[List.length_cons];have:=ih (x::xs) ys p (!q) (by simp only[List.length_cons];omega);omega
    ·rw[List.length_cons];have:=ih xs ys (!p) (!q) (by omega);omega
def SwI(w6:World)(ob:Nat)(pre:List (Int×Bool×Bool))(S:Nat->Prop)(W:World):Prop:=
 ∃ v,(∀ k,S k↔(k=ob\/k=ob+1)\/v.ownBlock=some k)/\Boxed W ob 55 v/\Boxed W (ob+1) 3 (.int .i64 (pre.foldl Np.ea ([],-1)).2)/\av w6.heap.size W v (pre.foldl Np.ea ([],-1)).1/\RdStep (λk=>k=ob\/k=ob+1) w6 W
theorem LZ(w6:World)(ob:Nat):dE w6.heap.size (SwI w6 ob):=by
 rintro pre S W W' ⟨v,hS,h1,h2,h3,h4⟩ ak;exact⟨v,hS,fd h1 ak ((hS _).2 (.inl (.inl rfl))),fd h2 ak ((hS _).2 (.inl (.inr rfl))),KV h3 ak (λg hg=>(hS g).2 (.inr hg)),⟨ak.os.trans h4.os,ak.tape.trans h4.tape,ak.output.trans h4.output,yQ h4.size ak.size,λk hk sJ=>(ak.keep k (lQ hk h4.size) (.inl hk)).trans (h4.keep k hk sJ)⟩⟩
theorem Xv(A A2:Option Addr)(n c n2 c2:Nat)(l m:List Np.Span)(hl:Np.js l=true)(hm:Np.js m=true)(h9:l.length<=9000)(h1:m.length<=1)(w:World)(h:SlR cm 2 w w.heap.size (.slice A n c) l)(h':SlR cm 2 w w.heap.size (.slice A2 n2 c2) m) :
 Calls prog 91 #[.slice A n c,.slice A2 n2 c2,.func (.func 92) #[] #[]] w (λe w'=>∃ v',e = .returned (.tuple #[v',.int .i64 0])/\av w.heap.size w' v' (Np.ot l m)/\Below w.heap.size w w'):=by
 have HL:=jq h;have HM:=jq h';have HV:=jq (And.intro hl hm);have H9:=jq h9;have H1:=jq h1;obtain⟨X,hX⟩:=abY w.heap.size;obtain⟨w1,am⟩:=abY (w.alloc (.cells #[.func (.func 92) #[] #[]] 154));have aK:w1.heap.size=X+1:=by rw[<-am,<-hX];simp
 have hb:Below w.heap.size w w1:=by rw[<-am];exact (vQ _ _).alloc (bQ _) _
 have aD:=jq hb;have kc:w1.cell? ⟨X,0,none⟩=some (.func (.func 92) #[] #[]):=by rw[<-am,<-hX];simp[go_sem]
 have Ge:=jq kc;clear h h' hl hm h9 h1 hb;refine (callsIn_wide (n:=0)).1 ?_;refine callsIn_of_wp_marks func91 rfl trivial ?_ rfl;simp only[ntmps91,List.size_toArray,List.length_cons,List.length_nil,Nat.reduceAdd,Nat.reduceSub,Array.replicate_succ,Array.replicate_zero,List.push_toArray,List.append_toArray,List.nil_append,List.cons_append];gi_wp2_with fail;clear am;refine⟨trivial,rfl,?_⟩;refine (callsIn_wide.2 (LP _ l w1 ((HL.out.keep cI aD.out).more iw aD.out.size))).mono ?_;rw[HV.out.1];rintro e w2 ⟨rfl,ab⟩;have aC:=ab.size;replace kc:=aaJ ab kc;have ai:=aaK aD ab;clear ab;gi_wp2_with fail;refine⟨trivial,rfl,?_⟩;refine (callsIn_wide.2 (LP _ m w2 ((HM.out.keep cI ai.out).more iw ai.out.size))).mono ?_;rw[HV.out.2];rintro e w3 ⟨rfl,ae⟩;have gh:=ae.size;replace kc:=aaJ ae kc;have ay:=aaK ai ae;clear ae;obtain⟨ob,Ek⟩:=abY w3.heap.size;obtain⟨w5,aB⟩:=abY ((w3.alloc (.cells #[.slice none 0 0] 55)).alloc (.cells #[.int .i64 (-1)] 3));have jo:w5.heap.size=ob+2:=by rw[<-aB,<-Ek];simp
 have aA:Below w3.heap.size w3 w5:=by rw[<-aB];exact ((vQ _ _).alloc (bQ _) _).alloc (by simp) _
 have kw:Hid (Boxed w5 ob 55 (.slice none 0 0)):=jq (by
  rw[<-aB,<-Ek];exact (Boxed.new w3 _ _).alloc _)
 have NO:Hid (Boxed w5 (ob+1) 3 (.int .i64 (-1))):=jq (by
  rw[<-aB,<-Ek]
  have:=Boxed.new (w3.alloc (.cells #[.slice none 0 0] 55)) 3 (.int .i64 (-1))
  simpa using this)
 replace kc:=aaJ aA kc;have db:=aaK ay aA;clear aA;gi_wp2_with fail;refine⟨trivial,rfl,?_⟩;refine (callsIn_wide.2 (QJ _ _ A A2 n c n2 c2 rfl rfl w5)).mono ?_;rintro e w6 ⟨rfl,bB⟩;have kj:w6.heap.size=ob+4:=by rw[bB];simp;omega
 have aI:Below w5.heap.size w5 w6:=by rw[bB];exact ((vQ _ _).alloc (bQ _) _).alloc (by simp) _
 have kX:w6.cell? ⟨ob+2,0,none⟩=some (.slice A n c):=by rw[bB,<-jo];simp[go_sem]
 have kY:w6.cell? ⟨ob+2+1,0,none⟩=some (.slice A2 n2 c2):=by rw[bB,show ob+2+1=w5.heap.size+1 by omega];simp[go_sem]
 rw[jo];have dB:=aaK db aI;replace kc:=aaJ aI kc;have Ol:=jq kc;have yr:=jq (QK l m (by have:=H9.out;omega) (by have:=H1.out;omega) (Np.mX HV.out.1) (Np.mX HV.out.2) (ob+2) (ob+2+1) n c n2 c2 (λk=>k<w6.heap.size/\¬ (k=ob\/k=ob+1)) A A2 w6 ⟨by omega,by omega⟩ ⟨by omega,by omega⟩ kX kY
  (λW hW=>by
    have aV:Below w.heap.size w6 ({ w6 with heap:=W.heap } : World):=⟨rfl,rfl,rfl,hW.1,λk hk=>(hW.2 k ⟨by omega,by omega⟩).2⟩;have h2:=((HL.out.keep cI dB.out).keep cI aV).more iw (show w.heap.size<=W.heap.size by have:=hW.1;omega);exact LI h2 rfl)
  (λW hW=>by
    have aV:Below w.heap.size w6 ({ w6 with heap:=W.heap } : World):=⟨rfl,rfl,rfl,hW.1,λk hk=>(hW.2 k ⟨by omega,by omega⟩).2⟩;have h2:=((HM.out.keep cI dB.out).keep cI aV).more iw (show w.heap.size<=W.heap.size by have:=hW.1;omega);exact LI h2 rfl))
 obtain⟨ev,zY⟩:=abY (Np.mrg (Np.aH l) (Np.aH m) false false);have NM:=jq zY;have yo:Hid (ev.length<=18002):=jq (by
  have:=Np.Vm _ (Np.aH l) (Np.aH m) false false (bQ _)
  rw[zY,Np.sm,Np.sm] at this
  have:=H9.out;have:=H1.out
  omega)
 rw[zY] at yr;have oL:=jq (aeX kw.out aI);have NP:=jq (aeX NO.out aI);clear aI bB aB kX kY kc zY;gi_wp2_with fail;refine Mi (Dr:=λk=>k<w6.heap.size/\¬ (k=ob\/k=ob+1)) (w0:=w6) (first:=#[]) (captured:=#[.pointer (some ⟨ob+2,0,none⟩),.pointer (some ⟨ob+2+1,0,none⟩)]) (gf:=239) rfl QM (mk:=λy=>#[y,.pointer (some ⟨ob+2,0,none⟩),.pointer (some ⟨ob+2+1,0,none⟩)]) (λ_=>rfl)
  yr.out (dR.refl λk e=>e.1) (λ_=>rfl) (SwI w6 ob) (λ_ _ _ _=>False)
  (LZ _ _) (λc s S W W' h _=>h)
  (λk=>k=ob\/k=ob+1) (λk h1 h2=>h2.2 h1) (by intro k h;omega)
  ⟨.slice none 0 0,λk=>by simp[Value.ownBlock],oL.out,NP.out,av.nil _ _,RdStep.refl _ _⟩ ?round ?done ?stop
 case stop=>
  rintro D c pre S W hD dH aF fM h hK;exact h.elim
 case done=>
  rintro D S W hD dH aF ⟨v,hS,di,dJ,hown,an⟩ hK;obtain⟨r,hr⟩:=abY ((ev.foldl Np.ea ([],-1)).1);have HR:Hid (Np.ot l m=r):=jq (by unfold Np.ot;rw[NM.out,hr]);have gd:r.length<=18002:=by rw[<-hr];have:=Np.Fb ev ([],-1);have:=yo.out;simp at *;omega
  rw[hr] at hown;obtain⟨nr,kR⟩:=abY r.length;obtain⟨vA,vc,rfl⟩:∃ A c,v = .slice A nr c:=by rw[<-kR];exact hown.form
  rw[kR] at gd;have bo:=di.cell;have aa:=(eQ.1 hK).1;have hd:decide ((20000:Int)<(nr:Int))=false:=acK;have iY:Hid (av w.heap.size (W.putObj D (.deferred none)) (.slice vA nr vc) r):=jq (av.weak (show av w6.heap.size (W.putObj D (.deferred none)) (.slice vA nr vc) r from bY hown (λg hg=>zQ (λe=>dH (e ▸ (hS g).2 (.inr hg))))) (by omega));have bg:Hid (Below w.heap.size w W):=jq (dB.out.trans (an.below (by omega) (λk e=>by omega)));have oH:=jq hK;have ym:Hid (w.heap.size<=D):=jq (by omega);clear hK hown di dJ hS an hr kR;gi_wp2_with fail;refine kH oH.out (v:=.tuple #[.slice vA nr vc,.int .i64 0]) (by simp[results,results91,go_sem]) ?_;exact⟨_,rfl,by rw[HR.out];exact iY.out,kE bg.out ym.out _⟩
 case round=>
  rintro l0 pre ⟨t,p,q⟩ S W aJ hI eh;have ly:Hid (pre.length<=18002):=jq (by have h1:=aJ.length_le;have h2:=yo.out;rw[List.length_append] at h1;omega);have u7:w6.heap.size<=W.heap.size:=by obtain⟨v,_,_,_,_,an⟩:=hI;exact an.size
  have lG:SwI w6 ob pre S (W.alloc (.cells #[.bool p,.bool q] 231)):=by
   obtain⟨v,hS,di,dJ,hown,an⟩:=hI;exact⟨v,hS,di.alloc _,dJ.alloc _,hown.alloc _,an.then_below ((vQ _ _).alloc (bQ _) _)⟩
  clear hI aJ;gi_wp2;refine⟨λk=>S k\/k=W.heap.size,(RdStep.refl S W).alloc _,λk e=>e.imp id (λh=>by omega),λk e=>by rcases e with e | e;have:=eh k e;simp;omega;simp;omega,?_⟩;intro lq W₂ ak;obtain⟨E,hE⟩:=abY W.heap.size;obtain⟨v,hS,di,dJ,hown,an⟩:=LZ w6 ob pre S _ W₂ lG (ak.weaken (bQ _) (λk e=>.inl e));have jm:=ak.size;simp only[World.size_alloc] at jm;have jg:W₂.heap[E]?=some (.cells #[.bool p,.bool q] 231 (0,0)):=by rw[<-hE];exact (ak.keep W.heap.size (by simp) (.inr (.inr rfl))).trans (heap_alloc_new _ _)
  rw[hE] at jm u7 |-;have d0:W₂.cell? ⟨E,0,none⟩=some (.bool p):=by simp[World.cell?,jg]
  have d1:W₂.cell? ⟨E,1,none⟩=some (.bool q):=by simp[World.cell?,jg]
  have dI:∀ k,S k->k<W₂.heap.size:=λk e=>by have:=eh k e;omega
  have fl:∀ g,v.ownBlock=some g->w6.heap.size<=g/\g<W₂.heap.size:=λg hg=>hown.lt g hg;have kc:W₂.cell? ⟨X,0,none⟩=some (.func (.func 92) #[] #[]):=(iQ (a:=⟨X,0,none⟩) (an.keep X (by omega) (by omega))).trans Ol.out;obtain⟨out,f,nX⟩:∃ out f,pre.foldl Np.ea ([],-1)=(out,f):=⟨_,_,rfl⟩;have nY:out.length<=18002:=by have h1:=Np.Fb pre ([],-1);rw[nX] at h1;have:=ly.out;simp at h1;omega
  rw[nX] at dJ hown;dsimp only at dJ hown;obtain⟨cnt,zU⟩:=abY (p&&!q);have gu:Hid ((pre ++ [(t,p,q)]).foldl Np.ea ([],-1)=if cnt then (if f<0 then (out,t) else (out,f)) else (if 0<=f then (out ++ [⟨f,t⟩],-1) else (out,f))):=jq (by
   rw[List.foldl_append,nX];show Np.ea (out,f) (t,p,q)=_;unfold Np.ea;dsimp only;rw[zU])
  obtain⟨nr,kR⟩:=abY out.length;obtain⟨vA,vc,rfl⟩:∃ A c,v = .slice A nr c:=by rw[<-kR];exact hown.form
  have bo:=di.cell;have zo:=di.frozen;have bf:=dJ.cell;have zf:=dJ.frozen;have HOUT:=jq (And.intro hS (And.intro di (And.intro dJ (And.intro hown (And.intro an (And.intro dI fl))))));have rR:=jq (And.intro kR nY);have YX:=jq zU;have rN:=jq (And.intro u7 jm);clear hS di dJ hown an ak lG eh dI fl jg nX kR nY;gi_wp2_with fail;refine⟨trivial,rfl,?_⟩;refine (CallsIn.inRound lq (callsIn_wide.2 (Vi p q W₂))).mono ?_;rw[zU];rintro e w7 ⟨rfl,rfl⟩;clear zU;obtain⟨hS,di,dJ,hown,an,dI,fl⟩:=HOUT.out;have kR:=rR.out.1;have nY:=rR.out.2
  cases cnt with
  | true=>
   by_cases hf:f<0
   ·have ke:decide (f<0)=true:=uQ hf;have iD:Hid ((pre ++ [(t,p,q)]).foldl Np.ea ([],-1)=(out,t)):=jq (by rw[gu.out,Qb rfl,Qb hf]);clear hS di dJ hown an dI fl kR nY;gi_wp2_with fail;obtain⟨hS,di,dJ,hown,an,dI,fl⟩:=HOUT.out;refine⟨λk=>(k=ob\/k=ob+1)\/(Value.slice vA nr vc).ownBlock=some k,(RdStep.refl _ _).setCell (.inl (.inl ((hS _).2 (.inl (.inr rfl))))) _,λk e=>.inl (.inl ((hS k).2 e)),λk e=>by simpa [World.setCell] using dI k ((hS k).2 e),.slice vA nr vc,λk=>Iff.rfl,bn di (by dsimp only;omega) _,?_,?_,an.setCell (.inl (.inr rfl)) _⟩
    ·rw[iD.out];exact dJ.set _
    ·rw[iD.out];exact bY hown (λg hg=>wQ _ _ _ _ (by dsimp only;have:=(fl g hg).1;omega))
   ·have ke:decide (f<0)=false:=tQ hf;have iD:Hid ((pre ++ [(t,p,q)]).foldl Np.ea ([],-1)=(out,f)):=jq (by rw[gu.out,Qb rfl,Qc hf]);clear hS di dJ hown an dI fl kR nY;gi_wp2_with fail;obtain⟨hS,di,dJ,hown,an,dI,fl⟩:=HOUT.out;exact⟨λk=>(k=ob\/k=ob+1)\/(Value.slice vA nr vc).ownBlock=some k,RdStep.refl _ _,λk e=>.inl (.inl ((hS k).2 e)),λk e=>dI k ((hS k).2 e),.slice vA nr vc,λk=>Iff.rfl,di,by rw[iD.out];exact dJ,by rw[iD.out];exact hown,an⟩
  | false=>
   by_cases hf:0<=f
   ·have ke:decide (0<=f)=true:=uQ hf;have iD:Hid ((pre ++ [(t,p,q)]).foldl Np.ea ([],-1)=(out ++ [⟨f,t⟩],-1)):=jq (by rw[gu.out,Qc (by simp),Qb hf]);clear hS di dJ hown an dI fl;gi_wp2_with (gi_at_builtin;refine Yy _ rfl _ _ rfl w6.heap.size (.slice vA nr vc) out rfl (HOUT.out.2.2.2.1.alloc _) w7.heap.size f t rfl (by simp[go_sem]) (by simp[go_sem]) (by omega) (by have:=rN.out;simp;omega) ?_;intro v9 w9 py kM ve;obtain⟨A9,c9,rfl⟩:∃ A c,v9 = .slice A (nr+1) c:=(by have:=py.form;rwa [List.length_append,kR] at this);have sC:=(HOUT.out.2.1.alloc (.cells #[.int .i64 f,.int .i64 t] 110)).kept kM (λe=>by have:=(HOUT.out.2.2.2.2.2.2 _ e.symm).1;omega);have sB:=(HOUT.out.2.2.1.alloc (.cells #[.int .i64 f,.int .i64 t] 110)).kept kM (λe=>by have:=(HOUT.out.2.2.2.2.2.2 _ e.symm).1;omega);have MF:=jq (And.intro py (And.intro kM (And.intro ve (And.intro sC sB))));have bo9:=sC.cell;have zo9:=sC.frozen;have bf9:=sB.cell;have zf9:=sB.frozen;clear py kM ve sC sB);obtain⟨hS,di,dJ,hown,an,dI,fl⟩:=HOUT.out;obtain⟨py,kM,ve,sC,sB⟩:=MF.out;have TC:=kM.size;simp only[World.size_alloc] at TC ve;have fg:=rN.out;refine⟨λk=>(k=ob\/k=ob+1)\/(Value.slice A9 (nr+1) c9).ownBlock=some k,((((RdStep.refl _ w7).alloc _).grown kM (λk e=>.inl (.inl ((hS k).2 (.inr e))))).setCell (.inl (.inl ((hS _).2 (.inl (.inl rfl))))) _).setCell (.inl (.inl ((hS _).2 (.inl (.inr rfl))))) _,λk e=>?_,λk e=>?_,.slice A9 (nr+1) c9,λk=>Iff.rfl,bn (sC.set _) (by dsimp only;omega) _,?_,?_,(((an.alloc _).grown kM (λk e=>.inr (fl k e).1)).setCell (.inl (.inl rfl)) _).setCell (.inl (.inr rfl)) _⟩
    ·rcases e with e | e
     ·exact .inl (.inl ((hS k).2 (.inl e)))
     ·rcases ve with h | h
      ·exact .inl (.inl ((hS k).2 (.inr (h ▸ e))))
      ·rw[h] at e;right;have:=Option.some.inj e;omega
    ·simp[World.setCell];rcases e with e | e
     ·omega
     ·exact (py.lt k e).2
    ·rw[iD.out];exact (bn sB (by dsimp only;omega) _).set _
    ·rw[iD.out];exact bY py (λg hg=>(wQ _ _ _ _ (by dsimp only;have:=(py.lt g hg).1;omega)).trans (wQ _ _ _ _ (by dsimp only;have:=(py.lt g hg).1;omega)))
   ·have ke:decide (0<=f)=false:=tQ hf;have iD:Hid ((pre ++ [(t,p,q)]).foldl Np.ea ([],-1)=(out,f)):=jq (by rw[gu.out,Qc (by simp),Qc hf]);clear hS di dJ hown an dI fl kR nY;gi_wp2_with fail;obtain⟨hS,di,dJ,hown,an,dI,fl⟩:=HOUT.out;exact⟨λk=>(k=ob\/k=ob+1)\/(Value.slice vA nr vc).ownBlock=some k,RdStep.refl _ _,λk e=>.inl (.inl ((hS k).2 e)),λk e=>dI k ((hS k).2 e),.slice vA nr vc,λk=>Iff.rfl,di,by rw[iD.out];exact dJ,by rw[iD.out];exact hown,an⟩
theorem Vj(A A2:Option Addr)(n c n2 c2:Nat)(l m:List Np.Span)(hl:Np.js l=true)(hm:Np.js m=true)(h9:l.length<=9000)(h1:m.length<=1)(w:World)(h:SlR cm 2 w w.heap.size (.slice A n c) l)(h':SlR cm 2 w w.heap.size (.slice A2 n2 c2) m) :
 Calls prog 45 #[.slice A n c,.slice A2 n2 c2] w (λe w'=>∃ v',e = .returned (.tuple #[v',.int .i64 0])/\av w.heap.size w' v' (Np.ot l m)/\Below w.heap.size w w'):=by
 have HC:=jq (Xv A A2 n c n2 c2 l m hl hm h9 h1 w h h');clear hl hm h9 h1 h h';go_enter func45,ntmps45;go_wp2_with fail;refine HC.out.mono ?_;rintro e w1 ⟨v1,rfl,px,aq⟩;have H1:=jq (And.intro px aq);clear px aq;go_wp2_with fail;go_ret2;exact⟨_,rfl,H1.out.1,H1.out.2⟩
end
end Go.Proofs.YtfnopgdcaanaiaaGreatDoor
