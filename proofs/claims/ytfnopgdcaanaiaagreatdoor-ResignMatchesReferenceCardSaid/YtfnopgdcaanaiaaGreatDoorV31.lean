/- Parts of the proof. No condition. -/
import Derived.Test.YtfnopgdcaanaiaaGreatDoorV25
import Derived.Test.YtfnopgdcaanaiaaGreatDoorV30
set_option linter.all false
set_option maxRecDepth 100000
set_option maxHeartbeats 8000000
namespace Go.Proofs.YtfnopgdcaanaiaaGreatDoor
open Go.Proofs.Tryz
section
open Go.RowKit Go.Shelf
attribute [local go_sem] Oper.semAt_some
theorem Np.JJ(l:List Np.Span):(Np.iY l).length<=l.length+1:=by
 have:=Np.JL l ([],0)
 unfold Np.iY;split <;> simp at this |- <;> omega
theorem Np.yP{l:List Np.Span}(h:Np.jp l=true):Np.SpV l:=by
 unfold Np.jp at h;rw[Bool.and_eq_true] at h;have key:∀ (l:List Np.Span) (p:Option Int),Np.iZ p l=true->Np.SpV l/\∀ u,p=some u->∀ s∈l,u<s.frm:=by
  intro l
  induction l with
  | nil=>exact λp _=>⟨⟨Np.ApartS.nil,λs hs=>(by cases hs),λs hs=>(by cases hs)⟩,λu _ s hs=>(by cases hs)⟩
  | cons s r ih=>
   intro p hp;unfold Np.iZ at hp;rw[Bool.and_eq_true] at hp;obtain⟨h1,h2⟩:=ih _ hp.2;have hs:(0<=s.frm/\s.frm<s.til/\s.til<=20000000)/\∀ u,p=some u->u<s.frm:=by
    have h3:=hp.1
    cases p with
    | none=>simp[Np.il] at h3;exact⟨by omega,λu hu=>(by cases hu)⟩
    | some u=>simp[Np.il] at h3;exact⟨by omega,λu' hu=>(by cases hu;omega)⟩
   refine⟨⟨⟨λx hx=>?_,List.pairwise_cons.2 ⟨λx hx=>h2 _ rfl x hx,h1.ap.apart⟩⟩,λx hx=>?_,λx hx=>?_⟩,λu hu x hx=>?_⟩
   ·rcases List.mem_cons.1 hx with rfl | hx
    ·exact hs.1.2.1
    ·exact h1.ap.full x hx
   ·rcases List.mem_cons.1 hx with rfl | hx
    ·exact hs.1.1
    ·exact h1.lo x hx
   ·rcases List.mem_cons.1 hx with rfl | hx
    ·exact hs.1.2.2
    ·exact h1.hi x hx
   ·rcases List.mem_cons.1 hx with rfl | hx
    ·exact hs.2 u hu
    ·have h3:=hs.2 u hu;have h4:=h2 _ rfl x hx;omega
 exact (key l none h.2).1
theorem alJ(A A2:Option Addr)(n c n2 c2:Nat)(l m:List Np.Span)(hl:Np.jp l=true)(hm:Np.jp m=true)(h9:l.length<=9000)(h1:m.length<=1)(w:World)(h:SlR bA 2 w w.heap.size (.slice A n c) l)(h':SlR bA 2 w w.heap.size (.slice A2 n2 c2) m) :
 Calls prog 86 #[.slice A n c,.slice A2 n2 c2] w (λe w'=>∃ v',e = .returned (.tuple #[v',.int .i64 0])/\aw w.heap.size w' v' (Np.tj l (Np.iY m))/\Below w.heap.size w w'):=by
 have HL:=jq h;have HM:=jq h';have HV:=jq (And.intro hl hm);have H9:=jq h9;have H1:=jq h1;clear h h' hl hm h9 h1;go_enter func86,ntmps86;go_wp2_with fail;refine (Qy A n c l HV.out.1 w HL.out).mono ?_;rintro e w1 ⟨rfl,aq⟩;have am:=jq aq;clear aq;go_wp2_with fail;refine (Qy A2 n2 c2 m HV.out.2 w1 ((HM.out.keep bE am.out).more dP am.out.size)).mono ?_;rintro e w2 ⟨rfl,ac⟩;have ah:=jq (am.out.trans (ac.mono am.out.size));clear ac;go_wp2_with fail;refine (alK _ m (by have:=H1.out;omega) w2 ((HM.out.keep bE ah.out).more dP ah.out.size)).mono ?_;rintro e w3 ⟨v3,rfl,jl,ak⟩;have qB:(Np.iY m).length<=4:=by have:=Np.JJ m;have:=H1.out;omega
 have eR:=jq qB;have mr:=jq (jl.slr (by omega));have aA:=jq (ah.out.trans (ak.mono ah.out.size));clear ak jl qB;go_wp2_with fail;refine (ajZ _ v3 l (Np.iY m) (by have:=H9.out;omega) eR.out w3 ((HL.out.keep bE aA.out).more dP aA.out.size) mr.out).mono ?_;rintro e w4 ⟨v4,rfl,ka,ar⟩;have eK:Hid ((Np.tj l (Np.iY m)).length<=18000):=jq (by
  have k1:=Np.Di (Np.iY m) l [];have k2:=Np.JJ m;have k3:l.length * (Np.iY m).length<=9000 * 2:=Nat.mul_le_mul H9.out (by have:=H1.out;omega);unfold Np.tj;simp only[List.length_nil] at k1;omega)
 obtain⟨r,hr⟩:=aJZ (Np.tj l (Np.iY m));rw[hr] at ka eK;have HR:=jq hr;obtain⟨A4,c4,rfl⟩:=ka.form;have H4:=jq (And.intro (ka.weak aA.out.size) (aA.out.trans (ar.mono aA.out.size)));clear ka ar hr;go_wp2_with fail;refine (Zv A4 r.length c4 (by have:=eK.out;omega) w4).mono ?_;rw[Qc (by have:=eK.out;omega)];rintro e w5 ⟨rfl,rfl⟩;go_wp2_with fail;go_ret2;exact⟨_,rfl,by rw[HR.out];exact H4.out.1,H4.out.2⟩
end
section
open Go.RowKit Go.Shelf
attribute [local go_sem] Oper.semAt_some
theorem ZM(p q:Bool)(w:World):Calls prog 92 #[.bool p,.bool q] w λe w'=>e = .returned (.bool (p&&!q))/\w'=w:=by
 cases p <;> cases q
 all_goals
  go_enter func92,ntmps92;go_wp2_with fail;go_ret;exact⟨rfl,rfl⟩
section
variable {ops:Array Oper} {rest:List Oper} {o:Oper} {a:Act} {Q:Exit->Act->World->Prop}
theorem aDY{F:Fence}{n:Nat}(w:World)(go:o.guard=none)(s x:Operand)(ho:o.op = .call { callee:=.builtin .append,args:=#[s,x],argTypes:=#[55,55] })
 (base:Nat) (v:Value) (ps:List Np.Span) (hs:a.eval s=v) (hown:aw base w v ps) (blk:Nat) (f u:Int) (hx:a.eval x = .slice (some ⟨blk,0,none⟩) 1 1) (hc:w.cell? ⟨blk,0,none⟩=some (.int .i64 f)) (be:w.cell? ⟨blk,1,none⟩=some (.int .i64 u)) (hlen:ps.length<=100000) (dw:base<=w.heap.size)
 (h:∀ v' w',aw base w' v' (ps ++ [⟨f,u⟩])->w.grownBy w' v.ownBlock->(v'.ownBlock=v.ownBlock\/v'.ownBlock=some w.heap.size)->wpListIn F n prog ops Q rest (a.put o.dst v') w'):wpListIn F n prog ops Q (o::rest) a w:=by
 obtain⟨i0,hi,di,ba,aN⟩:=info_parts Tryz.infoSpan;refine RE w go s x 55 ho base 110 i0 (.agg #[.int .i64 0,.int .i64 0]) 2 16 underlying55 hi di ba aN rfl (by decide) v ps.length (ps.map fN).flatten hs hown ⟨blk,0,none⟩ 1 1 [.int .i64 f,.int .i64 u] hx rfl ?_ (by simp[Value.oneCell']) (by unfold maxLen;omega) (by omega) dw ?_
 ·intro j y hj
  match j,hj with
  | 0,hj=>simp at hj;subst hj;simpa [Addr.add] using hc
  | 1,hj=>simp at hj;subst hj;simpa [Addr.add] using be
  | j+2,hj=>simp at hj
 ·intro v' w' ho' hg hat;refine h v' w' ?_ hg hat;have e:(ps ++ [(⟨f,u⟩:Np.Span)]).length=ps.length+1:=by simp
  unfold aw;rw[e,List.map_append,List.flatten_append];exact ho'
end
theorem Np.Kb:∀ (l:List (Int×Bool×Bool)) (o:List Np.Span×Int),(l.foldl Np.fX o).1.length<=o.1.length+l.length
 | [],o=>by simp
 | e::l,o=>by
   rw[List.foldl_cons]
   have:=Np.Kb l (Np.fX o e)
   have h2:(Np.fX o e).1.length<=o.1.length+1:=by unfold Np.fX;split <;> split <;> simp
   simp only[List.length_cons];omega
theorem Np.ZQ:∀ (n:Nat) (xs ys:List Int) (p q:Bool),xs.length+ys.length<=n->(Np.mrg xs ys p q).length<=n:=by
 intro n
 induction n with
 | zero=>
  intro xs ys p q h;obtain rfl:xs = []:=rQ (by omega);obtain rfl:ys = []:=rQ (by omega);rw[Np.mrg];simp
 | succ n ih=>
  intro xs ys p q h
  match xs,ys,h with
  | [],[],h=>rw[Np.mrg];simp
  | x::xs,[],h=>rw[Np.mrg,List.length_cons];have:=ih xs [] (!p) q (by simp at h |-;omega);omega
  | [],y::ys,h=>rw[Np.mrg,List.length_cons];have:=ih [] ys p (!q) (by simp at h |-;omega);omega
  | x::xs,y::ys,h=>
   simp only[List.length_cons] at h;rw[Np.mrg];split
   ·rw[List.length_cons];have:=ih xs (y::ys) (!p) q (by simp only[List.length_cons];omega);omega
   ·split
    ·rw[List.length_cons];have:=ih (x::xs) ys p (!q) (by simp only[List.length_cons];omega);omega
    ·rw[List.length_cons];have:=ih xs ys (!p) (!q) (by omega);omega
def SwI(w6:World)(ob:Nat)(pre:List (Int×Bool×Bool))(S:Nat->Prop)(W:World):Prop:=
 ∃ v,(∀ k,S k↔(k=ob\/k=ob+1)\/v.ownBlock=some k)/\Boxed W ob 55 v/\Boxed W (ob+1) 3 (.int .i64 (pre.foldl Np.fX ([],-1)).2)/\aw w6.heap.size W v (pre.foldl Np.fX ([],-1)).1/\RdStep (λk=>k=ob\/k=ob+1) w6 W
theorem Rg(w6:World)(ob:Nat):fm w6.heap.size (SwI w6 ob):=by
 rintro pre S W W' ⟨v,hS,h1,h2,h3,h4⟩ az;exact⟨v,hS,g9 h1 az ((hS _).2 (.inl (.inl rfl))),g9 h2 az ((hS _).2 (.inl (.inr rfl))),PY h3 az (λg hg=>(hS g).2 (.inr hg)),⟨az.os.trans h4.os,az.tape.trans h4.tape,az.output.trans h4.output,yQ h4.size az.size,λk hk IN=>(az.keep k (lQ hk h4.size) (.inl hk)).trans (h4.keep k hk IN)⟩⟩
theorem awJ(A A2:Option Addr)(n c n2 c2:Nat)(l m:List Np.Span)(hl:Np.jp l=true)(hm:Np.jp m=true)(h9:l.length<=9000)(h1:m.length<=1)(w:World)(h:SlR bA 2 w w.heap.size (.slice A n c) l)(h':SlR bA 2 w w.heap.size (.slice A2 n2 c2) m) :
 Calls prog 91 #[.slice A n c,.slice A2 n2 c2,.func (.func 92) #[] #[]] w (λe w'=>∃ v',e = .returned (.tuple #[v',.int .i64 0])/\aw w.heap.size w' v' (Np.sH l m)/\Below w.heap.size w w'):=by
 have HL:=jq h;have HM:=jq h';have HV:=jq (And.intro hl hm);have H9:=jq h9;have H1:=jq h1;obtain⟨X,hX⟩:=aJZ w.heap.size;obtain⟨w1,ai⟩:=aJZ (w.alloc (.cells #[.func (.func 92) #[] #[]] 154));have ba:w1.heap.size=X+1:=by rw[<-ai,<-hX];simp
 have hb:Below w.heap.size w w1:=by rw[<-ai];exact (vQ _ _).alloc (bQ _) _
 have am:=jq hb;have kc:w1.cell? ⟨X,0,none⟩=some (.func (.func 92) #[] #[]):=by rw[<-ai,<-hX];simp[go_sem]
 have Lh:=jq kc;clear h h' hl hm h9 h1 hb;refine (callsIn_wide (n:=0)).1 ?_;refine callsIn_of_wp_marks func91 rfl trivial ?_ rfl;simp only[ntmps91,List.size_toArray,List.length_cons,List.length_nil,Nat.reduceAdd,Nat.reduceSub,Array.replicate_succ,Array.replicate_zero,List.push_toArray,List.append_toArray,List.nil_append,List.cons_append];gi_wp2_with fail;clear ai;refine⟨trivial,rfl,?_⟩;refine (callsIn_wide.2 (Q6 _ l w1 ((HL.out.keep bE am.out).more dP am.out.size))).mono ?_;rw[HV.out.1];rintro e w2 ⟨rfl,ac⟩;have aN:=ac.size;replace kc:=aIZ ac kc;have ah:=aIX am ac;clear ac;gi_wp2_with fail;refine⟨trivial,rfl,?_⟩;refine (callsIn_wide.2 (Q6 _ m w2 ((HM.out.keep bE ah.out).more dP ah.out.size))).mono ?_;rw[HV.out.2];rintro e w3 ⟨rfl,ak⟩;have gV:=ak.size;replace kc:=aIZ ak kc;have aA:=aIX ah ak;clear ak;obtain⟨ob,IY⟩:=aJZ w3.heap.size;obtain⟨w5,aJ⟩:=aJZ ((w3.alloc (.cells #[.slice none 0 0] 55)).alloc (.cells #[.int .i64 (-1)] 3));have kT:w5.heap.size=ob+2:=by rw[<-aJ,<-IY];simp
 have av:Below w3.heap.size w3 w5:=by rw[<-aJ];exact ((vQ _ _).alloc (bQ _) _).alloc (by simp) _
 have lL:Hid (Boxed w5 ob 55 (.slice none 0 0)):=jq (by
  rw[<-aJ,<-IY];exact (Boxed.new w3 _ _).alloc _)
 have SE:Hid (Boxed w5 (ob+1) 3 (.int .i64 (-1))):=jq (by
  rw[<-aJ,<-IY]
  have:=Boxed.new (w3.alloc (.cells #[.slice none 0 0] 55)) 3 (.int .i64 (-1))
  simpa using this)
 replace kc:=aIZ av kc;have cG:=aIX aA av;clear av;gi_wp2_with fail;refine⟨trivial,rfl,?_⟩;refine (callsIn_wide.2 (VD _ _ A A2 n c n2 c2 rfl rfl w5)).mono ?_;rintro e w6 ⟨rfl,ef⟩;have kf:w6.heap.size=ob+4:=by rw[ef];simp;omega
 have aL:Below w5.heap.size w5 w6:=by rw[ef];exact ((vQ _ _).alloc (bQ _) _).alloc (by simp) _
 have kX:w6.cell? ⟨ob+2,0,none⟩=some (.slice A n c):=by rw[ef,<-kT];simp[go_sem]
 have kY:w6.cell? ⟨ob+2+1,0,none⟩=some (.slice A2 n2 c2):=by rw[ef,show ob+2+1=w5.heap.size+1 by omega];simp[go_sem]
 rw[kT];have dj:=aIX cG aL;replace kc:=aIZ aL kc;have Tf:=jq kc;have CQ:=jq (VE l m (by have:=H9.out;omega) (by have:=H1.out;omega) (Np.yP HV.out.1) (Np.yP HV.out.2) (ob+2) (ob+2+1) n c n2 c2 (λk=>k<w6.heap.size/\¬ (k=ob\/k=ob+1)) A A2 w6 ⟨by omega,by omega⟩ ⟨by omega,by omega⟩ kX kY
  (λW hW=>by
    have aB:Below w.heap.size w6 ({ w6 with heap:=W.heap } : World):=⟨rfl,rfl,rfl,hW.1,λk hk=>(hW.2 k ⟨by omega,by omega⟩).2⟩;have h2:=((HL.out.keep bE dj.out).keep bE aB).more dP (show w.heap.size<=W.heap.size by have:=hW.1;omega);exact Q1 h2 rfl)
  (λW hW=>by
    have aB:Below w.heap.size w6 ({ w6 with heap:=W.heap } : World):=⟨rfl,rfl,rfl,hW.1,λk hk=>(hW.2 k ⟨by omega,by omega⟩).2⟩;have h2:=((HM.out.keep bE dj.out).keep bE aB).more dP (show w.heap.size<=W.heap.size by have:=hW.1;omega);exact Q1 h2 rfl))
 obtain⟨ev,D3⟩:=aJZ (Np.mrg (Np.aX l) (Np.aX m) false false);have SC:=jq D3;have xq:Hid (ev.length<=18002):=jq (by
  have:=Np.ZQ _ (Np.aX l) (Np.aX m) false false (bQ _)
  rw[D3,Np.x9,Np.x9] at this
  have:=H9.out;have:=H1.out
  omega)
 rw[D3] at CQ;have xC:=jq (aMY lL.out aL);have SF:=jq (aMY SE.out aL);clear aL ef aJ kX kY kc D3;gi_wp2_with fail;refine RD (Dr:=λk=>k<w6.heap.size/\¬ (k=ob\/k=ob+1)) (w0:=w6) (first:=#[]) (captured:=#[.pointer (some ⟨ob+2,0,none⟩),.pointer (some ⟨ob+2+1,0,none⟩)]) (gf:=239) rfl VG (mk:=λy=>#[y,.pointer (some ⟨ob+2,0,none⟩),.pointer (some ⟨ob+2+1,0,none⟩)]) (λ_=>rfl)
  CQ.out (fL.refl λk e=>e.1) (λ_=>rfl) (SwI w6 ob) (λ_ _ _ _=>False)
  (Rg _ _) (λc s S W W' h _=>h)
  (λk=>k=ob\/k=ob+1) (λk h1 h2=>h2.2 h1) (by intro k h;omega)
  ⟨.slice none 0 0,λk=>by simp[Value.ownBlock],xC.out,SF.out,aw.nil _ _,RdStep.refl _ _⟩ ?round ?done ?stop
 case stop=>
  rintro D c pre S W hD ft aV iV h hK;exact h.elim
 case done=>
  rintro D S W hD ft aV ⟨v,hS,eN,gi,hown,aF⟩ hK;obtain⟨r,hr⟩:=aJZ ((ev.foldl Np.fX ([],-1)).1);have HR:Hid (Np.sH l m=r):=jq (by unfold Np.sH;rw[SC.out,hr]);have kP:r.length<=18002:=by rw[<-hr];have:=Np.Kb ev ([],-1);have:=xq.out;simp at *;omega
  rw[hr] at hown;obtain⟨nr,oO⟩:=aJZ r.length;obtain⟨vA,vc,rfl⟩:∃ A c,v = .slice A nr c:=by rw[<-oO];exact hown.form
  rw[oO] at kP;have bo:=eN.cell;have aa:=(eQ.1 hK).1;have hd:decide ((20000:Int)<(nr:Int))=false:=aKX;have iH:Hid (aw w.heap.size (W.putObj D (.deferred none)) (.slice vA nr vc) r):=jq (aw.weak (show aw w6.heap.size (W.putObj D (.deferred none)) (.slice vA nr vc) r from cX hown (λg hg=>zQ (λe=>ft (e ▸ (hS g).2 (.inr hg))))) (by omega));have aO:Hid (Below w.heap.size w W):=jq (dj.out.trans (aF.below (by omega) (λk e=>by omega)));have sR:=jq hK;have CL:Hid (w.heap.size<=D):=jq (by omega);clear hK hown eN gi hS aF hr oO;gi_wp2_with fail;refine oC sR.out (v:=.tuple #[.slice vA nr vc,.int .i64 0]) (by simp[results,results91,go_sem]) ?_;exact⟨_,rfl,by rw[HR.out];exact iH.out,oz aO.out CL.out _⟩
 case round=>
  rintro l0 pre ⟨t,p,q⟩ S W bg hI gh;have jR:Hid (pre.length<=18002):=jq (by have h1:=bg.length_le;have h2:=xq.out;rw[List.length_append] at h1;omega);have AG:w6.heap.size<=W.heap.size:=by obtain⟨v,_,_,_,_,aF⟩:=hI;exact aF.size
  have py:SwI w6 ob pre S (W.alloc (.cells #[.bool p,.bool q] 231)):=by
   obtain⟨v,hS,eN,gi,hown,aF⟩:=hI;exact⟨v,hS,eN.alloc _,gi.alloc _,hown.alloc _,aF.then_below ((vQ _ _).alloc (bQ _) _)⟩
  clear hI bg;gi_wp2;refine⟨λk=>S k\/k=W.heap.size,(RdStep.refl S W).alloc _,λk e=>e.imp id (λh=>by omega),λk e=>by rcases e with e | e;have:=gh k e;simp;omega;simp;omega,?_⟩;intro lq W₂ az;obtain⟨E,hE⟩:=aJZ W.heap.size;obtain⟨v,hS,eN,gi,hown,aF⟩:=Rg w6 ob pre S _ W₂ py (az.weaken (bQ _) (λk e=>.inl e));have lZ:=az.size;simp only[World.size_alloc] at lZ;have ib:W₂.heap[E]?=some (.cells #[.bool p,.bool q] 231 (0,0)):=by rw[<-hE];exact (az.keep W.heap.size (by simp) (.inr (.inr rfl))).trans (heap_alloc_new _ _)
  rw[hE] at lZ AG |-;have d0:W₂.cell? ⟨E,0,none⟩=some (.bool p):=by simp[World.cell?,ib]
  have d1:W₂.cell? ⟨E,1,none⟩=some (.bool q):=by simp[World.cell?,ib]
  have fu:∀ k,S k->k<W₂.heap.size:=λk e=>by have:=gh k e;omega
  have ij:∀ g,v.ownBlock=some g->w6.heap.size<=g/\g<W₂.heap.size:=λg hg=>hown.lt g hg;have kc:W₂.cell? ⟨X,0,none⟩=some (.func (.func 92) #[] #[]):=(iQ (a:=⟨X,0,none⟩) (aF.keep X (by omega) (by omega))).trans Tf.out;obtain⟨out,f,rV⟩:∃ out f,pre.foldl Np.fX ([],-1)=(out,f):=⟨_,_,rfl⟩;have rW:out.length<=18002:=by have h1:=Np.Kb pre ([],-1);rw[rV] at h1;have:=jR.out;simp at h1;omega
  rw[rV] at gi hown;dsimp only at gi hown;obtain⟨cnt,DX⟩:=aJZ (p&&!q);have dR:Hid ((pre ++ [(t,p,q)]).foldl Np.fX ([],-1)=if cnt then (if f<0 then (out,t) else (out,f)) else (if 0<=f then (out ++ [⟨f,t⟩],-1) else (out,f))):=jq (by
   rw[List.foldl_append,rV];show Np.fX (out,f) (t,p,q)=_;unfold Np.fX;dsimp only;rw[DX])
  obtain⟨nr,oO⟩:=aJZ out.length;obtain⟨vA,vc,rfl⟩:∃ A c,v = .slice A nr c:=by rw[<-oO];exact hown.form
  have bo:=eN.cell;have zo:=eN.frozen;have bf:=gi.cell;have zf:=gi.frozen;have HOUT:=jq (And.intro hS (And.intro eN (And.intro gi (And.intro hown (And.intro aF (And.intro fu ij))))));have xy:=jq (And.intro oO rW);have aHY:=jq DX;have qc:=jq (And.intro AG lZ);clear hS eN gi hown aF az py gh fu ij ib rV oO rW;gi_wp2_with fail;refine⟨trivial,rfl,?_⟩;refine (CallsIn.inRound lq (callsIn_wide.2 (ZM p q W₂))).mono ?_;rw[DX];rintro e w7 ⟨rfl,rfl⟩;clear DX;obtain⟨hS,eN,gi,hown,aF,fu,ij⟩:=HOUT.out;have oO:=xy.out.1;have rW:=xy.out.2
  cases cnt with
  | true=>
   by_cases hf:f<0
   ·have eU:decide (f<0)=true:=uQ hf;have li:Hid ((pre ++ [(t,p,q)]).foldl Np.fX ([],-1)=(out,t)):=jq (by rw[dR.out,Qb rfl,Qb hf]);clear hS eN gi hown aF fu ij oO rW;gi_wp2_with fail;obtain⟨hS,eN,gi,hown,aF,fu,ij⟩:=HOUT.out;refine⟨λk=>(k=ob\/k=ob+1)\/(Value.slice vA nr vc).ownBlock=some k,(RdStep.refl _ _).setCell (.inl (.inl ((hS _).2 (.inl (.inr rfl))))) _,λk e=>.inl (.inl ((hS k).2 e)),λk e=>by simpa [World.setCell] using fu k ((hS k).2 e),.slice vA nr vc,λk=>Iff.rfl,cn eN (by dsimp only;omega) _,?_,?_,aF.setCell (.inl (.inr rfl)) _⟩
    ·rw[li.out];exact gi.set _
    ·rw[li.out];exact cX hown (λg hg=>wQ _ _ _ _ (by dsimp only;have:=(ij g hg).1;omega))
   ·have eU:decide (f<0)=false:=tQ hf;have li:Hid ((pre ++ [(t,p,q)]).foldl Np.fX ([],-1)=(out,f)):=jq (by rw[dR.out,Qb rfl,Qc hf]);clear hS eN gi hown aF fu ij oO rW;gi_wp2_with fail;obtain⟨hS,eN,gi,hown,aF,fu,ij⟩:=HOUT.out;exact⟨λk=>(k=ob\/k=ob+1)\/(Value.slice vA nr vc).ownBlock=some k,RdStep.refl _ _,λk e=>.inl (.inl ((hS k).2 e)),λk e=>fu k ((hS k).2 e),.slice vA nr vc,λk=>Iff.rfl,eN,by rw[li.out];exact gi,by rw[li.out];exact hown,aF⟩
  | false=>
   by_cases hf:0<=f
   ·have eU:decide (0<=f)=true:=uQ hf;have li:Hid ((pre ++ [(t,p,q)]).foldl Np.fX ([],-1)=(out ++ [⟨f,t⟩],-1)):=jq (by rw[dR.out,Qc (by simp),Qb hf]);clear hS eN gi hown aF fu ij;gi_wp2_with (gi_at_builtin;refine aDY _ rfl _ _ rfl w6.heap.size (.slice vA nr vc) out rfl (HOUT.out.2.2.2.1.alloc _) w7.heap.size f t rfl (by simp[go_sem]) (by simp[go_sem]) (by omega) (by have:=qc.out;simp;omega) ?_;intro v9 w9 tM tB AL;obtain⟨A9,c9,rfl⟩:∃ A c,v9 = .slice A (nr+1) c:=(by have:=tM.form;rwa [List.length_append,oO] at this);have yk:=(HOUT.out.2.1.alloc (.cells #[.int .i64 f,.int .i64 t] 110)).kept tB (λe=>by have:=(HOUT.out.2.2.2.2.2.2 _ e.symm).1;omega);have yj:=(HOUT.out.2.2.1.alloc (.cells #[.int .i64 f,.int .i64 t] 110)).kept tB (λe=>by have:=(HOUT.out.2.2.2.2.2.2 _ e.symm).1;omega);have RT:=jq (And.intro tM (And.intro tB (And.intro AL (And.intro yk yj))));have bo9:=yk.cell;have zo9:=yk.frozen;have bf9:=yj.cell;have zf9:=yj.frozen;clear tM tB AL yk yj);obtain⟨hS,eN,gi,hown,aF,fu,ij⟩:=HOUT.out;obtain⟨tM,tB,AL,yk,yj⟩:=RT.out;have Yo:=tB.size;simp only[World.size_alloc] at Yo AL;have ie:=qc.out;refine⟨λk=>(k=ob\/k=ob+1)\/(Value.slice A9 (nr+1) c9).ownBlock=some k,((((RdStep.refl _ w7).alloc _).grown tB (λk e=>.inl (.inl ((hS k).2 (.inr e))))).setCell (.inl (.inl ((hS _).2 (.inl (.inl rfl))))) _).setCell (.inl (.inl ((hS _).2 (.inl (.inr rfl))))) _,λk e=>?_,λk e=>?_,.slice A9 (nr+1) c9,λk=>Iff.rfl,cn (yk.set _) (by dsimp only;omega) _,?_,?_,(((aF.alloc _).grown tB (λk e=>.inr (ij k e).1)).setCell (.inl (.inl rfl)) _).setCell (.inl (.inr rfl)) _⟩
    ·rcases e with e | e
     ·exact .inl (.inl ((hS k).2 (.inl e)))
     ·rcases AL with h | h
      ·exact .inl (.inl ((hS k).2 (.inr (h ▸ e))))
      ·rw[h] at e;right;have:=Option.some.inj e;omega
    ·simp[World.setCell];rcases e with e | e
     ·omega
     ·exact (tM.lt k e).2
    ·rw[li.out];exact (cn yj (by dsimp only;omega) _).set _
    ·rw[li.out];exact cX tM (λg hg=>(wQ _ _ _ _ (by dsimp only;have:=(tM.lt g hg).1;omega)).trans (wQ _ _ _ _ (by dsimp only;have:=(tM.lt g hg).1;omega)))
   ·have eU:decide (0<=f)=false:=tQ hf;have li:Hid ((pre ++ [(t,p,q)]).foldl Np.fX ([],-1)=(out,f)):=jq (by rw[dR.out,Qc (by simp),Qc hf]);clear hS eN gi hown aF fu ij oO rW;gi_wp2_with fail;obtain⟨hS,eN,gi,hown,aF,fu,ij⟩:=HOUT.out;exact⟨λk=>(k=ob\/k=ob+1)\/(Value.slice vA nr vc).ownBlock=some k,RdStep.refl _ _,λk e=>.inl (.inl ((hS k).2 e)),λk e=>fu k ((hS k).2 e),.slice vA nr vc,λk=>Iff.rfl,eN,by rw[li.out];exact gi,by rw[li.out];exact hown,aF⟩
theorem ZN(A A2:Option Addr)(n c n2 c2:Nat)(l m:List Np.Span)(hl:Np.jp l=true)(hm:Np.jp m=true)(h9:l.length<=9000)(h1:m.length<=1)(w:World)(h:SlR bA 2 w w.heap.size (.slice A n c) l)(h':SlR bA 2 w w.heap.size (.slice A2 n2 c2) m) :
 Calls prog 45 #[.slice A n c,.slice A2 n2 c2] w (λe w'=>∃ v',e = .returned (.tuple #[v',.int .i64 0])/\aw w.heap.size w' v' (Np.sH l m)/\Below w.heap.size w w'):=by
 have HC:=jq (awJ A A2 n c n2 c2 l m hl hm h9 h1 w h h');clear hl hm h9 h1 h h';go_enter func45,ntmps45;go_wp2_with fail;refine HC.out.mono ?_;rintro e w1 ⟨v1,rfl,pO,aq⟩;have H1:=jq (And.intro pO aq);clear pO aq;go_wp2_with fail;go_ret2;exact⟨_,rfl,H1.out.1,H1.out.2⟩
end
section
def Np.qu(d:Int)(x:Np.Held):List Np.Span:=Np.sH x.spans (Np.fV x.signed d 20000000)
def Np.mB(d:Int)(x:Np.Held):List Np.Held:=if Np.qu d x = [] then [] else [{ x with spans:=Np.qu d x }]
def Np.jX(d:Int)(l:List Np.Held):List Np.Held:=l.flatMap (Np.mB d)
noncomputable def Np.nm(h:Np.Hist):Int×List Np.Held:=((Np.mv h).1,Np.jX h.drift (Np.mv h).2)
theorem Np.Nc(d:Int)(l:List Np.Held)(x:Np.Held):Np.jX d (l ++ [x])=Np.jX d l++Np.mB d x:=by unfold Np.jX;rw[List.flatMap_append];simp
theorem Np.Hj(d:Int):∀ l:List Np.Held,(Np.jX d l).length<=l.length
 | []=>bQ _
 | x::l=>by
   have h1:=Np.Hj d l;have h2:(Np.mB d x).length<=1:=by unfold Np.mB;split <;> simp
   unfold Np.jX at h1 |-;rw[List.flatMap_cons,List.length_append,List.length_cons];omega
theorem Np.aGJ{z:Np.Zone}(v:Np.VZone z){x:Np.Signed}(hx:x∈z.sets):Np.plain x=true:=by
 obtain⟨h1,h2⟩:=v.form x hx;unfold Np.plain;rw[(Np.uq v).2 x hx,uQ h1,Np.P5 (λg hg i y hy=>?_)]
 ·rfl
 ·have h3:=h2 i y hy;exact⟨(h3.same g hg).1,(h3.same g hg).2,h3.win.1,h3.win.2.1,h3.win.2.2⟩
theorem Np.P6{s:Np.Signed}(h:Np.plain s=true):s.set.data.length<=8/\s.sigs.length<=6:=by
 unfold Np.plain at h;simp only[Bool.and_eq_true,Qa] at h;obtain⟨⟨h1,h2⟩,_⟩:=h;unfold Np.dC at h1;simp only[Bool.and_eq_true,Qa] at h1;exact⟨by omega,h2⟩
structure Np.GapOk(x:Np.Held):Prop where
 plain:Np.plain x.signed=true
 valid:Np.jp x.spans=true
 few:x.spans.length<=9000
 fresh:x.fresh.length<=9000
theorem Np.Mk{h:Np.Hist}(v:Np.VHist h)(u:Np.Use h){x:Np.Held}(hx:x∈Np.jd h):Np.GapOk x:=by
 obtain⟨y,hy,rfl⟩:=List.mem_map.1 hx;obtain⟨z,_,hz⟩:=Np.JG.1 hy;have hp:=u.pairs z;obtain⟨_,_,_,⟨c,hc,_,h1⟩,_⟩:=Np.ED v.full hz;have h2:=Np.aGJ (v.each c hc).zone h1;have h3:y.fresh.length<=9000:=by
  unfold Np.pub Np.kH at hz;obtain⟨s,_,rfl⟩:=List.mem_map.1 hz;exact yQ (mO _) (yQ (Cr _ _) (by omega))
 refine⟨h2,Np.aAQ v (by omega) hz v.drift ?_,?_,h3⟩
 ·obtain⟨_,_,_,h4,_⟩:=Np.um ((Np.uq (v.each c hc).zone).2 _ h1);omega
 ·show (Np.gN y h.drift).length<=9000;unfold Np.gN;refine yQ (mO _) ?_;rw[List.length_map];exact h3
theorem Np.E5{s:Np.Signed}{d:Int}(hp:Np.plain s=true)(hd:0<=d/\d<=1000):Np.fW s d 20000000=0:=by unfold Np.fW;rw[Qb ⟨hd.1,hd.2,by omega,by omega,hp⟩]
theorem Np.Co{s:Np.Signed}{d:Int}(hp:Np.plain s=true)(hd:0<=d/\d<=1000):Np.jp (Np.fV s d 20000000)=true/\(Np.fV s d 20000000).length<=1:=by
 rw[Np.E6 (Np.E5 hp hd)];unfold Np.qZ;split
 ·exact⟨rfl,by simp⟩
 ·rename_i h;refine⟨?_,by simp⟩;unfold Np.jp;have hb:0<=Np.oW s d/\Np.oX s d 20000000<=20000000:=by
   have hw:=Np.JN hp;unfold Np.oW Np.oX
   cases hs:s.sigs with
   | nil=>dsimp only;omega
   | cons g r=>
    have:=hw g (by rw[hs];rfl)
    dsimp only;omega
  have:Np.il none ⟨Np.oW s d,Np.oX s d 20000000⟩=true:=by
   simp[Np.il];omega
  unfold Np.iZ Np.iZ;rw[this];rfl
theorem Np.Nb{d:Int}{x:Np.Held}(k:Np.GapOk x)(hd:0<=d/\d<=1000):(Np.qu d x).length<=18000:=by
 obtain⟨h1,h2⟩:=Np.Co (d:=d) k.plain hd;unfold Np.qu;rw[Np.Rh (Np.yP k.valid) (Np.yP h1)];have k1:=Np.Di (Np.iY (Np.fV x.signed d 20000000)) x.spans [];have k2:=Np.JJ (Np.fV x.signed d 20000000);have k3:x.spans.length * (Np.iY (Np.fV x.signed d 20000000)).length<=9000 * 2:=Nat.mul_le_mul k.few (by omega);unfold Np.tj;simp only[List.length_nil] at k1;omega
theorem Np.Wd{d:Int}{x:Np.Held}(k:Np.GapOk x)(hd:0<=d/\d<=1000):Np.tj x.spans (Np.iY (Np.qZ x.signed d 20000000))=Np.qu d x:=by
 unfold Np.qu;rw[Np.Rh (Np.yP k.valid) (Np.yP (Np.Co k.plain hd).1),Np.E6 (Np.E5 k.plain hd)]
end
section
open Go.RowKit Go.Shelf
attribute [local go_sem] Oper.semAt_some
def vm(z:ByteArray)(rv:Value):Value->Value->Value
 | .agg xs,f=>.agg (#[.string z]++xs ++ #[f,rv])
 | _,_=>undef
def iN(oA:Option Addr)(m oc E:Nat)(zs sn:ByteArray)(sty slf:Int)(dA:Option Addr)(dn dc:Nat)(gA:Option Addr)(gn gc:Nat)(fA:Option Addr)(fn fc:Nat)(A7:Option Addr)(n7 c7:Nat)(e5:Value)(e8:Value)(e11:Value)(e12:Value)(i:Nat):Value:=[.slice oA m oc,.pointer (some ⟨E,0,none⟩),.string zs,.pointer (some ⟨E,1,none⟩),.agg #[.string sn,.int .i64 sty,.int .i64 slf,.slice dA dn dc,.slice gA gn gc],e5,.pointer (some ⟨E,6,none⟩),.slice fA fn fc,e8,.slice A7 n7 c7,vm zs (.slice A7 n7 c7) e5 e8,e11,e12,undef].getD i undef
def lu(i:Nat):Nat:=[50,51,52,53,54,55,56,57,58,59,60,61,62,6].getD i 0
def We:List Nat:=[0,1,2,3,4,6,7,9,10,5,8,11,12].map lu
theorem qv:∀ i∈[0,1,2,3,4,6,7,9,10,5,8,11,12],lu i<65/\lu i∈We:=by decide
theorem rA:∀ i∈[0,1,2,3,4,6,7,9,10,5,8,11,12],∀ j∈[0,1,2,3,4,6,7,9,10,5,8,11,12],j≠i->lu i≠lu j:=by decide
theorem Wf(e:List Value)(h:Np.Hist)(w:World)(hV:lk w.heap.size w)(k:n9 w e h) :
 Calls prog 42 #[.agg e.toArray] w λe w'=>∃ A n c,e = .returned (.tuple #[.slice A n c,.int .i64 (Np.nm h).1])/\(Np.nm h).2.length=n/\SlR cM 8 w' w'.heap.size (.slice A n c) (Np.nm h).2/\Below w.heap.size w w':=by
 obtain⟨A1,n1,c1,A2,n2,c2,s,ty,lf,A3,n3,c3,A4,n4,c4,dr,st,rfl,-,-,-,-,-⟩:=yM k.rh;have pg:Hid (h.drift=dr):=jq (by
  obtain⟨hv,cv,s',dv,dx,he,_⟩:=k.rh;simp only[List.cons.injEq,Value.int.injEq,true_and,and_true] at he;exact he.2.2.2.2.2.2.2.1.symm)
 obtain⟨X,hX⟩:=aJZ w.heap.size;obtain⟨w1,ai⟩:=aJZ (w.alloc (.cells #[.slice A1 n1 c1,.slice A2 n2 c2,.string s,.int .i64 ty,.int .i64 lf,.slice A3 n3 c3,.slice A4 n4 c4,.int .i64 dr,.int .i64 st] 29));have ba:w1.heap.size=X+1:=by rw[<-ai,<-hX];simp
 have hb:Below w.heap.size w w1:=by rw[<-ai];exact (vQ _ _).alloc (bQ _) _
 have am:=jq hb;have ir:=jq (hV.next hb);have mj:=jq (k.keep hb);have aK:=jq (lP _ _ hX ai);obtain⟨gx,dW⟩:=aJZ (Np.nm h);rw[dW];have ju:=jq dW;clear hb k hV dW;have k0:=aK.out 0 _ rfl;have k1:=aK.out 1 _ rfl;have k2:=aK.out 2 _ rfl;have k3:=aK.out 3 _ rfl;have k4:=aK.out 4 _ rfl;have k5:=aK.out 5 _ rfl;have k6:=aK.out 6 _ rfl;have k7:=aK.out 7 _ rfl;have k8:=aK.out 8 _ rfl;go_enter func42,ntmps42;go_wp2_with fail;clear ai;refine (cAll _ h w1 ir.out mj.out).mono ?_;rintro e w2 ⟨A,n,c,rfl,hl,har,hb⟩;have nE:=har.all dL;have aN:=hb.size;have ah:=jq (am.out.trans (hb.mono am.out.size));have lM:=jq (ir.out.next hb);have ld:=jq (mj.out.keep hb);have bl:=jq (aK.out.keep hb (by omega));clear hb har;clear k0 k1 k2 k3 k4 k5 k6 k7 k8;have k0:=bl.out 0 _ rfl;have k1:=bl.out 1 _ rfl;have k2:=bl.out 2 _ rfl;have k3:=bl.out 3 _ rfl;have k4:=bl.out 4 _ rfl;have k5:=bl.out 5 _ rfl;have k6:=bl.out 6 _ rfl;have k7:=bl.out 7 _ rfl;have k8:=bl.out 8 _ rfl;by_cases dI:Np.VHist h
 case neg=>
  rw[Np.xV dI];have HN:=jq dI;clear dI;go_wp2_with fail;refine bodyPost_ret (v:=.tuple #[.slice none 0 0,.int .i64 1]) (by simp[results,results42,go_sem]) rfl ?_;rw[<-ju.out];unfold Np.nm;rw[Np.xV HN.out];exact⟨_,_,_,rfl,rfl,E2 _ _ _ _,ah.out⟩
 case pos=>
  rw[Np.xW dI] at hl nE |-;dsimp only at hl nE;have sP:Hid (gx=(0,Np.jX dr (Np.jd h))):=jq (by rw[<-ju.out];unfold Np.nm;rw[Np.xW dI,pg.out]);have mg:Hid (0<=dr/\dr<=1000):=jq (by rw[<-pg.out];exact dI.drift);have zg:Hid (∀ x∈Np.jd h,Np.GapOk x):=jq (λx hx=>Np.Mk dI ld.out.use hx);have bY:n<=2100:=by rw[<-hl];unfold Np.jd;rw[List.length_map];exact ld.out.use.pubAll
  obtain⟨l,tH⟩:=aJZ (Np.jd h);rw[tH] at hl nE sP zg;have zF:=jq nE;have fI:=jq hl;have lA:n<=c:=by
   obtain⟨A',c',h1,h2,_⟩:=aj nE;simp only[Value.slice.injEq] at h1;omega
  obtain⟨B,hB⟩:=aJZ w2.heap.size;have Ih:X<B:=by omega
  obtain⟨i0,jh,di,we,ua⟩:=info_parts Tryz.infoHeldA;clear dI nE hl tH;clear k0 k1 k2 k3 k4 k5 k6 k7 k8;go_wp2_with fail;go_loopw [6,22] (λvo i wr=>∃ (k m:Nat) (oA:Option Addr) (oc:Nat) (M:Nat->Prop),k<=n/\i = .int .i64 k/\vo = .slice oA m oc/\Hid ((Np.jX dr (l.take k)).length=m)/\Hid (∀ j,M j->B<=j/\j<wr.heap.size)/\Hid (bp cM 8 57 B M wr (.slice oA m oc) (Np.jX dr (l.take k)))/\Hid (Below B w2 wr)) (λ_ i _=>n - (intOf i).toNat)
  case atStart=>exact⟨0,0,none,0,λ_=>False,jQ _,rfl,rfl,jq rfl,jq (λj h=>h.elim),jq (bp.nil _),jq (vQ _ _)⟩
  case round=>
   obtain⟨k,m,oA,oc,M,hk,rfl,rfl,cj,pk,HO,HB⟩:=hrel;have al:=HB.out.size;have iz:m<=2100:=by rw[<-cj.out];have h1:=Np.Hj dr (l.take k);rw[List.length_take,fI.out] at h1;omega
   by_cases aa:k<n
   case neg=>
    have zJ:Hid (l.take k=l):=jq (kQ (by rw[fI.out];omega));rw[zJ.out] at HO cj;have HE:Hid (Below w.heap.size w wr):=aIX ah HB.out;go_wp2_with fail;refine bodyPost_ret (v:=.tuple #[.slice oA m oc,.int .i64 0]) (by simp[results,results42,go_sem]) rfl ?_;rw[sP.out];exact⟨_,_,_,rfl,cj.out,HO.out.slr dL (by rw[cj.out];omega),HE.out⟩
   case pos=>
    obtain⟨x,ab⟩:∃ x,l[k]?=some x:=⟨_,aQ (by rw[fI.out];exact aa)⟩;have mZ:Hid (Np.jX dr (l.take (k+1))=Np.jX dr (l.take k)++Np.mB dr x):=jq (by rw[Kd ab,Np.Nc]);have iF:=jq (zg.out x (gQ ab));have pa:=jq (show Below w2.heap.size w2 wr by rw[hB];exact HB.out);obtain⟨A'',c'',hA'',_,_,aY⟩:=zF.out.later ep ea pa.out;simp only[Value.slice.injEq] at hA'';obtain⟨rfl,-,rfl⟩:=hA'';obtain⟨b,o,ec,rfl,bB,hlen,hce,yz⟩:=aY k x ab;obtain⟨zs,sn,dv,sv,fv,pv,rfl,nJ,wk,ay,gu,aT,aR,iy,ii⟩:=yz;obtain⟨dA,dn,dc,rfl,kG,_,_⟩:=kl aT;obtain⟨gA,gn,gc,rfl,eB,_,_⟩:=kl aR;obtain⟨fA,fn,fc,rfl,ed,_,_⟩:=kl iy;obtain⟨pA,pn,pc,rfl,BH,_,_⟩:=kl ii;have cw:=jq (And.intro kG (And.intro eB (And.intro ed BH)));have ql:=jq (And.intro nJ (And.intro wk (And.intro ay gu)));have sV:Hid ((⟨⟨sn.data.toList,x.signed.set.type,x.signed.set.life,x.signed.set.data⟩,x.signed.sigs⟩:Np.Signed)=x.signed):=jq (by rw[ay]);have mh:=jq aT;have oh:=jq aR;have sN:=jq iy;have mq:=jq ii;have f0:wr.cell? ⟨b,o+k * 8,none⟩=some _:=hce 0 _ rfl;have f1:wr.cell? ⟨b,o+k * 8+1,none⟩=some _:=hce 1 _ rfl;have f2:wr.cell? ⟨b,o+k * 8+2,none⟩=some _:=hce 2 _ rfl;have f3:wr.cell? ⟨b,o+k * 8+3,none⟩=some _:=hce 3 _ rfl;have f4:wr.cell? ⟨b,o+k * 8+4,none⟩=some _:=hce 4 _ rfl;have f5:wr.cell? ⟨b,o+k * 8+5,none⟩=some _:=hce 5 _ rfl;have f6:wr.cell? ⟨b,o+k * 8+6,none⟩=some _:=hce 6 _ rfl;have f7:wr.cell? ⟨b,o+k * 8+7,none⟩=some _:=hce 7 _ rfl;have bF:(0:Int)<=(k:Int):=by omega
    have bL:(k:Int)<(n:Int):=by omega
    obtain⟨E,hE⟩:=aJZ wr.heap.size;obtain⟨w5,aJ⟩:=aJZ (wr.alloc (.cells #[.string zs,.string sn,.int .i64 x.signed.set.type,.int .i64 x.signed.set.life,.slice dA dn dc,.slice gA gn gc,.slice fA fn fc,.slice pA pn pc] 57));have av:Below wr.heap.size wr w5:=by rw[<-aJ];exact (vQ _ _).alloc (bQ _) _
    have kT:w5.heap.size=E+1:=by rw[<-aJ,<-hE];simp
    have ip:=jq (lP _ _ hE aJ);have cG:=jq av;have dp:=jq ((bl.out.keep HB.out (by omega)).keep av (by omega));have C3:=jq ((lM.out.next pa.out).next av);have k0:=dp.out 0 _ rfl;have k1:=dp.out 1 _ rfl;have k2:=dp.out 2 _ rfl;have k3:=dp.out 3 _ rfl;have k4:=dp.out 4 _ rfl;have k5:=dp.out 5 _ rfl;have k6:=dp.out 6 _ rfl;have k7:=dp.out 7 _ rfl;have k8:=dp.out 8 _ rfl;have d0:=ip.out 0 _ rfl;have d1:=ip.out 1 _ rfl;have d2:=ip.out 2 _ rfl;have d3:=ip.out 3 _ rfl;have d4:=ip.out 4 _ rfl;have d5:=ip.out 5 _ rfl;have d6:=ip.out 6 _ rfl;have d7:=ip.out 7 _ rfl;clear ab aY hce nJ wk ay gu aT aR iy ii kG eB ed BH av hlen;go_wp2_with fail;clear aJ f0 f1 f2 f3 f4 f5 f6 f7;refine (Cn sn ql.out.2.2.2 x.signed.set.type x.signed.set.life _ _ x.signed.set.data x.signed.sigs dr 20000000 w5 C3.out.rules (mh.out.later bD bP cG.out) (oh.out.later bH cE cG.out)).mono ?_;rw[sV.out,Np.E5 iF.out.plain mg.out];rintro e w6 ⟨v6,rfl,mM,aL⟩;obtain⟨A6,n6,c6,rfl,pL,_,_⟩:=kl mM;have kf:=aL.size;have mu:=jq mM;have dj:=aIX cG aL;have js:=jq (dp.out.keep aL (by omega));have mf:=jq (ip.out.keep aL (by omega));clear k0 k1 k2 k3 k4 k5 k6 k7 k8;clear d0 d1 d2 d3 d4 d5 d6 d7;have d0:=mf.out 0 _ rfl;have d1:=mf.out 1 _ rfl;have d2:=mf.out 2 _ rfl;have d3:=mf.out 3 _ rfl;have d4:=mf.out 4 _ rfl;have d5:=mf.out 5 _ rfl;have d6:=mf.out 6 _ rfl;have d7:=mf.out 7 _ rfl;clear mM aL pL;go_wp2_with fail;refine (ZN pA A6 pn pc n6 c6 x.spans (Np.fV x.signed dr 20000000) iF.out.valid (Np.Co iF.out.plain mg.out).1 iF.out.few (Np.Co iF.out.plain mg.out).2 w6 (mq.out.later bE dP dj.out) mu.out).mono ?_;rintro e w7 ⟨v7,rfl,mL,cW⟩;replace mL:aw w6.heap.size w7 v7 (Np.qu dr x):=mL;obtain⟨gp,rK⟩:=aJZ (Np.qu dr x);have ri:Hid (gp.length<=18000):=jq (by rw[<-rK];exact Np.Nb iF.out mg.out);rw[rK] at mL;obtain⟨n7,vU⟩:=aJZ gp.length;obtain⟨A7,c7,rfl⟩:∃ A c,v7 = .slice A n7 c:=by rw[<-vU];exact mL.form
    have rm:=jq (And.intro rK vU);have xD:=jq mL;have qG:=cW.size;have fG:=aIX dj cW;have fh:=jq (mf.out.keep cW (by omega));clear d0 d1 d2 d3 d4 d5 d6 d7;clear mL cW rK vU;have rb:Hid (Below B w2 w7):=aIX HB fG.out;by_cases lx:n7=0
    case pos=>
     subst lx;have HH:Hid (Np.mB dr x = []):=jq (by unfold Np.mB;rw[rm.out.1,Qb (rQ rm.out.2)]);have bG:=jq (HO.out.keep ep dL ea fG.out);have d0:=fh.out 0 _ rfl;have d1:=fh.out 1 _ rfl;have d2:=fh.out 2 _ rfl;have d3:=fh.out 3 _ rfl;have d4:=fh.out 4 _ rfl;have d5:=fh.out 5 _ rfl;have d6:=fh.out 6 _ rfl;have d7:=fh.out 7 _ rfl;go_wp2_with fail;go_roundw
     case measure=>simp[intOf] <;> omega
     case rel=>exact⟨k+1,m,oA,oc,M,by omega,by go_num,rfl,jq (by rw[mZ.out,HH.out,List.append_nil];exact cj.out),jq (λj hj=>by have:=pk.out j hj;omega),jq (by rw[mZ.out,HH.out,List.append_nil];exact bG.out),rb⟩
    case neg=>
     have pJ:decide ((0:Int)<(n7:Int))=true:=aLQ;have HH:Hid (Np.mB dr x = [{ x with spans:=gp }]):=jq (by unfold Np.mB;rw[rm.out.1,Qc (λe=>lx (by rw[<-rm.out.2,e];rfl))]);have dt:Below w7.heap.size w7 w7.drew:=(vQ _ _).drew;obtain⟨w8,ik⟩:=aJZ w7.drew;rw[ik] at dt;have qH:w8.heap.size=w7.heap.size:=by rw[<-ik];rfl
     have gY:=aIX fG dt;have RZ:=jq dt;have p9:=jq (fh.out.keep dt (by omega));have d0:=fh.out 0 _ rfl;have d1:=fh.out 1 _ rfl;have d2:=fh.out 2 _ rfl;have d3:=fh.out 3 _ rfl;have d4:=fh.out 4 _ rfl;have d5:=fh.out 5 _ rfl;have d6:=fh.out 6 _ rfl;have d7:=fh.out 7 _ rfl;go_wp2_with fail;clear d0 d1 d2 d3 d4 d5 d6 d7;have d0:=p9.out 0 _ rfl;have d1:=p9.out 1 _ rfl;have d2:=p9.out 2 _ rfl;have d3:=p9.out 3 _ rfl;have d4:=p9.out 4 _ rfl;have d5:=p9.out 5 _ rfl;have d6:=p9.out 6 _ rfl;have d7:=p9.out 7 _ rfl;clear dt;refine Cy λa0 br=>?_;have kp:=jq br;have fF:=jq (show a0.eval (.tmp 6) = .slice oA m oc by rw[br];rfl);have nW:=jq (show a0.eval (.tmp 8) = .pointer (some ⟨E,0,none⟩) by rw[br];rfl);have p7:=jq (show a0.eval (.tmp 11) = .slice A7 n7 c7 by rw[br];rfl);have HM:=jq (show a0.tmps.size=65 by rw[br];rfl);clear br;refine wp_region_any (by kernel_rfl) ?_
     try rw[show ({ heap:=w7.heap,tape:=w7.tape,drawn:=w7.drawn+1,os:=w7.os,output:=w7.output } : World)=w8 from ik]
     try rw[ik]
     refine gM 5 (D:=[0,1,2,3,4,6,7,9]) (val:=iN oA m oc E zs sn x.signed.set.type x.signed.set.life dA dn dc gA gn gc fA fn fc A7 n7 c7 undef undef undef undef) qv rA (tx HM.out) (by kernel_rfl) ?_ ?_
     ·intro i aU bd o ho a' hb aM;have k6':=aLY hb fF.out;have k8':=aLY hb nW.out;have k11':=aLY hb p7.out;simp[Act.eval] at k6' k8' k11'
      repeat' (rcases aU with _ | ⟨_,aU⟩)
      all_goals first
       | (exfalso;simp at bd;done)
       | (cases ho
          try simp[Act.eval,Region.binds,iN,lu] at aM
          refine gE (by simp[Region.wanted]) ?_;simp[Oper.quietAt,Oper.quietUpon,execOp,go_sem,iN,k6',k8',k11',d0,d1,d2,d3,d4,d5,d6,vm,aM])
     ·intro f listed a' hH hr hv;have av4:=hv 4;simp[Act.eval,iN,lu] at av4;simp only[wpOp];simp[Region.wanted];refine .inl ?_;simp[Oper.wp,go_sem,av4];refine (aoJ sn x.signed.set.type x.signed.set.life _ x.signed.set.data _ x.signed.sigs (by have:=Np.P6 iF.out.plain;omega) (by have:=Np.P6 iF.out.plain;omega) w8 (mh.out.later bD bP gY.out) (oh.out.later bH cE gY.out)).mono ?_;rintro e w9 ⟨dv2,gv2,rfl,jB,dU⟩;have yE:=dU.size;replace d0:=aIZ dU d0;replace d1:=aIZ dU d1;replace d2:=aIZ dU d2;replace d3:=aIZ dU d3;replace d4:=aIZ dU d4;replace d5:=aIZ dU d5;replace d6:=aIZ dU d6;replace d7:=aIZ dU d7;have me:Hid (Cz w8.heap.size w9 dv2 gv2 x.signed.set.data x.signed.sigs):=jq jB;obtain⟨dA2,dc2,rfl,_,_⟩:=aj ((jB (λ_=>False) (λ_ e=>e.elim)).1);obtain⟨gA2,gc2,rfl,_,_⟩:=aj ((jB (λ_=>False) (λ_ e=>e.elim)).2);rw[cw.out.1,cw.out.2.1] at me |-;have fH:=aIX gY dU;have R0:=jq dU;clear jB dU;dsimp only;refine gM 8 (D:=[0,1,2,3,4,6,7,9,5]) (val:=iN oA m oc E zs sn x.signed.set.type x.signed.set.life dA dn dc gA gn gc fA fn fc A7 n7 c7 (.agg #[.string sn,.int .i64 x.signed.set.type,.int .i64 x.signed.set.life,.slice dA2 dn dc2,.slice gA2 gn gc2]) undef undef undef) qv rA (hH.next qv rA hr) (by kernel_rfl) ?_ ?_
      ·intro i aU bd o ho a' hb aM;have k6':=aLY hb fF.out;have k8':=aLY hb nW.out;have k11':=aLY hb p7.out;simp[Act.eval] at k6' k8' k11'
       repeat' (rcases aU with _ | ⟨_,aU⟩)
       all_goals first
        | (exfalso;simp at bd;done)
        | (cases ho
           try simp[Act.eval,Region.binds,iN,lu] at aM
           refine gE (by simp[Region.wanted]) ?_;simp[Oper.quietAt,Oper.quietUpon,execOp,go_sem,iN,k6',k8',k11',d0,d1,d2,d3,d4,d5,d6,vm,aM])
      ·intro f listed a' hH hr hv;have av7:=hv 7;simp[Act.eval,iN,lu] at av7;simp only[wpOp];simp[Region.wanted];refine .inl ?_;simp[Oper.wp,go_sem,av7];refine (U8 _ x.fresh (by have:=iF.out.fresh;omega) w9 (sN.out.later bE dP fH.out)).mono ?_;rintro e wC ⟨fv2,rfl,rV,eu⟩;have Pf:=eu.size;replace d0:=aIZ eu d0;replace d1:=aIZ eu d1;replace d2:=aIZ eu d2;replace d3:=aIZ eu d3;replace d4:=aIZ eu d4;replace d5:=aIZ eu d5;replace d6:=aIZ eu d6;replace d7:=aIZ eu d7;obtain⟨fA2,fc2,rfl⟩:=rV.formL;rw[cw.out.2.2.1] at rV |-;have Tw:=jq rV;have gO:=aIX fH eu;have KH:=jq eu;clear rV eu;dsimp only;refine gM 11 (D:=[0,1,2,3,4,6,7,9,10,5,8]) (val:=iN oA m oc E zs sn x.signed.set.type x.signed.set.life dA dn dc gA gn gc fA fn fc A7 n7 c7 (.agg #[.string sn,.int .i64 x.signed.set.type,.int .i64 x.signed.set.life,.slice dA2 dn dc2,.slice gA2 gn gc2]) (.slice fA2 fn fc2) undef undef) qv rA (hH.next qv rA hr) (by kernel_rfl) ?_ ?_
       ·intro i aU bd o ho a' hb aM;have k6':=aLY hb fF.out;have k8':=aLY hb nW.out;have k11':=aLY hb p7.out;simp[Act.eval] at k6' k8' k11'
        repeat' (rcases aU with _ | ⟨_,aU⟩)
        all_goals first
         | (exfalso;simp at bd;done)
         | (cases ho
            try simp[Act.eval,Region.binds,iN,lu] at aM
            refine gE (by simp[Region.wanted]) ?_;simp[Oper.quietAt,Oper.quietUpon,execOp,go_sem,iN,k6',k8',k11',d0,d1,d2,d3,d4,d5,d6,vm,aM])
       ·intro f listed a' hH hr hv;have av10:=hv 10;simp[Act.eval,iN,lu] at av10;simp only[wpOp];simp[Region.wanted];refine .inl ?_;simp[vm] at av10;simp[Oper.wp,execOp,go_sem,av10];obtain⟨wX,qE⟩:=aKQ (wC.alloc (.cells #[.string zs,.string sn,.int .i64 x.signed.set.type,.int .i64 x.signed.set.life,.slice dA2 dn dc2,.slice gA2 gn gc2,.slice fA2 fn fc2,.slice A7 n7 c7] 57));rw[<-qE];have bJ:Below wC.heap.size wC wX:=by rw[qE];exact (vQ _ _).alloc (bQ _) _
        have AV:gG wX wC.heap.size 0 [.string zs,.string sn,.int .i64 x.signed.set.type,.int .i64 x.signed.set.life,.slice dA2 dn dc2,.slice gA2 gn gc2,.slice fA2 fn fc2,.slice A7 n7 c7]:=Dj (w:=wC) _ _ rfl qE;have YK:wX.heap.size=wC.heap.size+1:=by rw[qE];simp
        replace d0:=aIZ bJ d0;replace d1:=aIZ bJ d1;replace d2:=aIZ bJ d2;replace d3:=aIZ bJ d3;replace d4:=aIZ bJ d4;replace d5:=aIZ bJ d5;replace d6:=aIZ bJ d6;replace d7:=aIZ bJ d7;have re:=jq AV;have eL:=aIX gO bJ;have aHQ:=jq bJ;have kw:Hid (cM (bn wX M) wX.heap.size [.string zs,.string sn,.int .i64 x.signed.set.type,.int .i64 x.signed.set.life,.slice dA2 dn dc2,.slice gA2 gn gc2,.slice fA2 fn fc2,.slice A7 n7 c7] { x with spans:=gp }):=jq (by
         have hM:∀ j,M j->j<wr.heap.size:=λj hj=>(pk.out j hj).2;have h1:=me.out M (λj hj=>by have:=hM j hj;omega);have Oq:=Leaves'.of_below (M:=M) (KH.out.trans (bJ.aKZ));have h2:=Oq.slr bD Cc bP h1.1;have h3:=Oq.slr bH yN cE h1.2;have h4:SlR bA 2 (bn wC M) wC.heap.size (.slice fA2 fn fc2) x.fresh:=by
          have:=(Tw.out.sans (M:=M) (λj hj=>by have:=hM j hj;omega) (λr x h=>h)).slr dP (by rw[gW];omega) (by have:=iF.out.fresh;omega)
          rwa [gW] at this
         have h5:=(xD.out.around (n:=w6.heap.size) (bQ _) (by have:=ri.out;omega)) M (λj hj=>⟨jQ _,by have:=hM j hj;omega⟩);have h4':=(Leaves'.of_below (M:=M) bJ).slr bE QJ dP h4;have h5':=(Leaves'.of_below (M:=M) ((((RZ.out.trans (R0.out.aKZ)).trans (KH.out.aKZ)).trans (bJ.aKZ)))).slr bE QJ dP h5;exact⟨zs,sn,_,_,_,_,rfl,ql.out.1,ql.out.2.1,ql.out.2.2.1,ql.out.2.2.2,h2,h3,h4',h5'⟩)
        have uO:=jq (HO.out.keep ep dL ea eL.out);clear qE bJ AV;refine gM 12 (D:=[0,1,2,3,4,6,7,9,10,5,8,11]) (val:=iN oA m oc E zs sn x.signed.set.type x.signed.set.life dA dn dc gA gn gc fA fn fc A7 n7 c7 (.agg #[.string sn,.int .i64 x.signed.set.type,.int .i64 x.signed.set.life,.slice dA2 dn dc2,.slice gA2 gn gc2]) (.slice fA2 fn fc2) (.slice (some ⟨wC.heap.size,0,none⟩) 1 1) undef) qv rA (hH.next qv rA hr) (by kernel_rfl) ?_ ?_
        ·intro i aU bd o ho a' hb aM;have k6':=aLY hb fF.out;have k8':=aLY hb nW.out;have k11':=aLY hb p7.out;simp[Act.eval] at k6' k8' k11'
         repeat' (rcases aU with _ | ⟨_,aU⟩)
         all_goals first
          | (exfalso;simp at bd;done)
          | (cases ho
             try simp[Act.eval,Region.binds,iN,lu] at aM
             refine gE (by simp[Region.wanted]) ?_;simp[Oper.quietAt,Oper.quietUpon,execOp,go_sem,iN,k6',k8',k11',d0,d1,d2,d3,d4,d5,d6,vm,aM])
        ·intro f listed a' hH hr hv;have av0:=hv 0;have av11:=hv 11;simp[iN,lu] at av0 av11;simp only[wpOp];simp[Region.wanted];refine .inl ?_;refine Kw (R:=cM) (M:=M) wX (.tmp 50) (.tmp 61) 52 rfl B 57 i0 (.agg #[.string ⟨#[]⟩,.string ⟨#[]⟩,.int .i64 0,.int .i64 0,.slice none 0 0,.slice none 0 0,.slice none 0 0,.slice none 0 0]) 144 underlying52 jh di we ua rfl (by decide) (.slice oA m oc) (Np.jX dr (l.take k)) av0 uO.out (some ⟨wC.heap.size,0,none⟩) 1 [{ x with spans:=gp }] av11 (Cg rfl kw.out re.out) Cf (by rw[cj.out];simp[maxLen];omega) (by rw[cj.out];simp;omega) (by omega) ep dL ea ?_;intro v8 wY dK cr gJ;obtain⟨A8,c8,rfl⟩:=dK.formN (n:=m+1) (by rw[List.length_append,cj.out];rfl);have YL:=cr.size;have tN:∀ j,(Value.slice oA m oc).ownBlock=some j->B<=j/\j<wr.heap.size:=λj e=>HO.out.lt j e;have ly:wY.heap[E]?=wX.heap[E]?:=cr.block _ (by omega) (λe=>by have:=(tN _ e.symm).2;omega);replace d0:=(iQ (a:=⟨E,0,none⟩) ly).trans d0;replace d1:=(iQ (a:=⟨E,1,none⟩) ly).trans d1;replace d2:=(iQ (a:=⟨E,2,none⟩) ly).trans d2;replace d3:=(iQ (a:=⟨E,3,none⟩) ly).trans d3;replace d4:=(iQ (a:=⟨E,4,none⟩) ly).trans d4;replace d5:=(iQ (a:=⟨E,5,none⟩) ly).trans d5;replace d6:=(iQ (a:=⟨E,6,none⟩) ly).trans d6;replace d7:=(iQ (a:=⟨E,7,none⟩) ly).trans d7;have Fz:Hid (Below B w2 wY):=jq (HB.out.trans ((eL.out.aKZ).trans ((vQ _ _).grown cr (by omega) (λj e=>(tN j e).1))));have H8:=jq (And.intro dK (And.intro cr gJ));clear dK cr gJ ly tN;refine gM 13 (D:=[0,1,2,3,4,6,7,9,10,5,8,11,12]) (val:=iN oA m oc E zs sn x.signed.set.type x.signed.set.life dA dn dc gA gn gc fA fn fc A7 n7 c7 (.agg #[.string sn,.int .i64 x.signed.set.type,.int .i64 x.signed.set.life,.slice dA2 dn dc2,.slice gA2 gn gc2]) (.slice fA2 fn fc2) (.slice (some ⟨wC.heap.size,0,none⟩) 1 1) (.slice A8 (m+1) c8)) qv rA (hH.next qv rA hr) (by kernel_rfl) ?_ ?_
         ·intro i aU bd o ho a' hb aM;have k6':=aLY hb fF.out;have k8':=aLY hb nW.out;have k11':=aLY hb p7.out;simp[Act.eval] at k6' k8' k11'
          repeat' (rcases aU with _ | ⟨_,aU⟩)
          all_goals first
           | (exfalso;simp at bd;done)
           | (cases ho
              try simp[Act.eval,Region.binds,iN,lu] at aM
              refine gE (by simp[Region.wanted]) ?_;simp[Oper.quietAt,Oper.quietUpon,execOp,go_sem,iN,k6',k8',k11',d0,d1,d2,d3,d4,d5,d6,vm,aM])
         ·intro f listed a' hH hr hv;have av12:=hv 12;simp[Act.eval,iN,lu] at av12;simp only[wpOp];simp[Region.wanted];refine .inl ?_;simp[Oper.wp,execOp,go_sem,av12];refine wT hH hr HM.out qv (by kernel_rfl) λew=>?_
          ·rw[ew,kp.out];simp[lF,Act.put,iN,lu];clear hv hH ew;clear d0 d1 d2 d3 d4 d5 d6 d7;go_wp2_with fail;go_roundw
           case measure=>simp[intOf] <;> omega
           case rel=>
            refine⟨k+1,m+1,A8,c8,_,by omega,by go_num,rfl,jq (by rw[mZ.out,HH.out,List.length_append,cj.out];rfl),jq (λj hj=>?_),jq (by rw[mZ.out,HH.out];exact H8.out.1),Fz⟩;rcases hj with hj | hj
            ·have:=pk.out j hj;omega
            ·have:=H8.out.1.lt j hj;exact this
end
end Go.Proofs.YtfnopgdcaanaiaaGreatDoor
