/- Parts of the proof. No condition. -/
import Derived.Test.YtbfbobfbgabjiaaGreatDoorM12
set_option linter.all false
set_option maxRecDepth 100000
set_option maxHeartbeats 8000000
namespace Go.Proofs.YtbfbobfbgabjiaaGreatDoor
open Go.Proofs.Tryz
section
open Go.RowKit Go.Sort Go.Shelf
theorem Ue{W w':World}(h:D.Below W.heap.size W w'):∃ q os,w'=grow (W.drewN q) os:=by
 refine⟨w'.drawn - W.drawn,w'.heap.extract W.heap.size w'.heap.size,?_⟩;have hh:w'.heap=W.heap++w'.heap.extract W.heap.size w'.heap.size:=by
  apply Array.ext_getElem?;intro j;rcases Nat.lt_or_ge j W.heap.size with h1 | h1
  ·rw[Array.getElem?_append_left h1]; exact h.block j h1
  ·rw[Array.getElem?_append_right h1,Array.getElem?_extract];split
   ·congr 1; omega
   ·rw[Array.getElem?_eq_none (by omega)]
 have hd:w'.drawn=W.drawn+(w'.drawn - W.drawn):=by have:=h.drawn; omega
 have h1:=h.os;have h2:=h.tape;have h3:=h.output
 cases w'
 cases W
 simp only[grow,World.drewN,World.mk.injEq] at *;exact⟨hh,h2,hd,h1,h3⟩
abbrev VN:={ x:List UInt8 // Np.aG x=true }
instance:Inhabited VN:=⟨⟨[46],by decide⟩⟩
def qF(x:VN):Value:=aH x.1
def lz(x y:VN):Int:=Np.aM x.1 y.1
theorem acQ:SWO (ltOf lz) where
 irrefl x:=by unfold ltOf lz; rw[Np.fH.self]; rfl
 trans x y z h1 h2:=by
  unfold ltOf lz at *;simp only[Qa] at *;exact Np.fH.trans _ _ _ h1 h2
 ntrans x y z h1 h2:=by
  unfold ltOf lz at *;simp only[decide_eq_false_iff_not] at *;intro h3;rcases Int.lt_trichotomy (Np.aM x.1 y.1) 0 with h4 | h4 | h4
  ·exact h1 h4
  ·have:=Np.fH.zero _ _ h4; rw[this] at h3; exact h2 h3
  ·have:=Np.fH.trans _ _ _ (Np.fH.anti' _ _ h4) h3
   exact h2 this
theorem abY(x y:VN)(h1:ltOf lz x y=false)(h2:ltOf lz y x=false):x=y:=by
 unfold ltOf lz at *;simp only[decide_eq_false_iff_not] at *;apply Subtype.ext;rcases Int.lt_trichotomy (Np.aM x.1 y.1) 0 with h4 | h4 | h4
 ·exact absurd h4 h1
 ·exact Np.fH.zero _ _ h4
 ·exact absurd (Np.fH.anti' _ _ h4) h2
theorem Ot{x:List UInt8}(h:Np.aG x=true):(⟨x.toArray⟩:ByteArray).size<=140737488355328:=by
 have:=qs h
 have e:(⟨x.toArray⟩:ByteArray).size=x.length:=by rw[<-bn]
 omega
theorem Um(x y:VN)(w:World) :
 Calls prog 52 #[qF x,qF y] w λe w'=>e = .returned (.int .i64 (lz x y))/\D.Below w.heap.size w w':=by
 have hc:=D.compare_any ⟨x.1.toArray⟩ ⟨y.1.toArray⟩ (Ot x.2) (Ot y.2) w;have e1:(⟨x.1.toArray⟩:ByteArray).data.toList=x.1:=rfl;have e2:(⟨y.1.toArray⟩:ByteArray).data.toList=y.1:=rfl;have e3:D.cmpVal x.1 y.1 = .tuple #[.int .i64 (lz x y),.int .i64 0]:=by unfold D.cmpVal; rw[x.2,y.2]; rfl
 rw[e1,e2,e3] at hc;have HC:=jq hc;clear hc e1 e2 e3;unfold qF aH;generalize lz x y=z at HC |-;go_enter func52,ntmps52;go_wp2_with (go_at_call 53; refine HC.out.mono ?_; rintro e w2 ⟨rfl,aa⟩; have ak:=jq aa; clear aa);go_ret;exact⟨rfl,ak.out⟩
theorem UW(enc:VN->Value){w:World}{g n:Nat}{os:Array Obj}{cur:Array Value}{e:TypeId}{fr:Nat×Nat}(d:Array VN)(hb:w.heap[g]?=some (.cells cur e fr)) :
 (sortWorld enc w g 0 n d os).heap[g]?=some (.cells (putCells enc 0 d cur) e fr):=by
 have hl:g<w.heap.size:=(eQ.1 hb).1;unfold sortWorld;rw[heap_grow_old _ _ (by simpa [putRow,mapBlock,Sort.ahead] using hl)];simp[putRow,mapBlock,Sort.ahead,Array.getElem?_modify,hb,onCells]
theorem TA(enc:VN->Value){w:World}{g n:Nat}{os:Array Obj}(d:Array VN):w.grownBy (sortWorld enc w g 0 n d os) (some g):=by
 unfold sortWorld;refine⟨rfl,rfl,rfl,by simp,λq hq hne=>?_⟩;rw[heap_grow_old _ _ (by simpa using hq)]
 have:g≠q:=λe=>hne (by rw[e])
 simp[putRow,mapBlock,Sort.ahead,Array.getElem?_modify,this]
theorem Xm(base:Nat)(v:Value)(xs:List (List UInt8))(w:World)(hown:cB base w v xs)(hv:∀ x∈xs,Np.aG x=true)(hl:xs.length<=100000) :
 Calls prog 51 #[v,.func (.func 52) #[] #[]] w λe w'=>e = .returned (.tuple #[])/\cB base w' v (Np.tM xs)/\w.grownBy w' v.ownBlock:=by
 obtain⟨ys,hys⟩:∃ ys:List VN,ys.map (·.1)=xs:=⟨xs.pmap (λx h=>⟨x,h⟩) hv,by rw[List.map_pmap]; simp⟩;subst hys;have hs:Np.tM (ys.map (·.1))=(ys.mergeSort λx y=>!(ltOf lz) y x).map (·.1):=by
  unfold Np.tM;exact (List.map_mergeSort (r:=λx y:VN=>!(ltOf lz) y x) (s:=λa b=>!decide (Np.aM b a<0)) (f:=λx:VN=>x.1) (l:=ys) (λa _ b _=>rfl)).symm
 have qa:w.ownsRow base 9 1 v (ys.map (·.1)).length ((ys.map (·.1)).map aH):=hown;rw[List.length_map] at qa hl;rcases qa.2 with ⟨rfl,h0⟩ | ⟨g,cap,cur,rfl,eS,hb,h1,h2,h3,h4⟩
 ·have:ys = []:=rQ h0
  subst this;refine (Tryz.slices_SortFunc_none (α:=VN) none 0 _ w).mono ?_;intro e w' hh;obtain⟨rfl,rfl⟩:=hh;exact⟨rfl,by rw[hs]; simpa using hown,⟨rfl,rfl,rfl,bQ _,λ_ _ _=>rfl⟩⟩
 have eg:∀ args w,(callFunc 52 args).run prog w = .ok (.enter 52 args) w:=enters_of func52 (by kernel_rfl) rfl;have hH:Holds qF w g 0 ys.toArray:=λj hj=>by
  have hj':j<ys.length:=by simpa using hj
  refine⟨?_,by simp[World.frozen?,hb]⟩
  have:=qa.cellAt j (by omega)
  rw[Nat.zero_add,this,List.getElem?_map,List.getElem?_map,aQ hj',getElem!_pos ys.toArray j hj];simp[qF]
 have Bc:CmpLays1 prog 52 #[] qF lz g 0 ys.toArray.size w:=λm os dk _ x y=>(Um x y _).mono λe w' ⟨he,hw⟩=>⟨he,Ue hw⟩;have Ex:=Tryz.slices_SortFunc_total qF (λ_=>rfl) lz acQ 52 #[] g 0 cap ys.toArray w eg Bc hH (eQ.1 hb).1 (by simp; omega) abY;have hlen:(ys.mergeSort λx y=>!(ltOf lz) y x).length=ys.length:=List.length_mergeSort _;rw[List.size_toArray] at Ex;refine Ex.mono λe w' ⟨he,n,os,hw⟩=>⟨he,?_,?_⟩
 ·subst hw;rw[hs];unfold cB;rw[List.length_map,hlen];refine⟨by simp,.inr ⟨g,cap,_,rfl,eS,UW qF _ hb,h1,h2,by simp[putCells,h3],?_⟩⟩;apply List.ext_getElem?;intro j;by_cases hj:j<ys.length
  ·have rn:j<cur.size:=by omega
   have ER:j<(ys.mergeSort λx y=>!(ltOf lz) y x).length:=by omega
   rw[List.getElem?_take_of_lt (by omega),Array.getElem?_toList,List.getElem?_map,List.getElem?_map,aQ ER];simp[putCells,rn,hj,qF]
  ·rw[List.getElem?_take_eq_none (by omega),List.getElem?_eq_none (by simp; omega)]
 ·subst hw;exact TA qF _
def bw(W:World)(B:Nat)(e:List Value)(h:Np.Hist):Prop:=∃ (hv cv:Value) (s:ByteArray) (dv cj:Value),e = [hv,cv,.string s,.int .i64 h.anchor.type,.int .i64 h.anchor.life,dv,cj,.int .i64 h.drift,.int .i64 h.stop]/\s.data.toList=h.anchor.name/\s.size<=140737488355328/\
 SlR gW 3 W B hv h.hosts/\SlR iF 5 W B cv h.copies/\SlR cG 3 W B dv h.anchor.data/\SlR ip 1 W B cj h.hints
theorem cE:dK bw:=λ_ _ _ _ _ ⟨hv,cv,s,dv,cj,h0,h1,h2,h3,h4,h5,h6⟩ hb=>⟨hv,cv,s,dv,cj,h0,h1,h2,h3.keep fF hb,h4.keep fk hb,h5.keep cL hb,h6.keep iU hb⟩
theorem cM:dV bw:=λ_ _ _ _ _ ⟨hv,cv,s,dv,cj,h0,h1,h2,h3,h4,h5,h6⟩ hb=>⟨hv,cv,s,dv,cj,h0,h1,h2,h3.more jZ hb,h4.more kK hb,h5.more dp hb,h6.more nv hb⟩
def Np.oR(h:Np.Hist):Prop:=h.copies.length<=500/\∀ c∈h.copies,c.zone.sets.length<=20000
theorem Ms{h:Np.Hist}(v:Np.VHist h):∀ x∈Np.cH (h.copies.map (·.zone.apex)),Np.aG x=true:=λx hx=>by
 obtain⟨c,hc,rfl⟩:=List.mem_map.1 (Np.vu.1 hx);have h1:=(v.each c hc).zone.right;unfold Np.fm at h1;simp only[Bool.and_eq_true] at h1;exact h1.1.1
theorem Xc(e:List Value)(h:Np.Hist)(hf:Np.oR h)(w:World)(hR:iW w w.heap.size)(hh:bw w w.heap.size e h) :
 Calls prog 14 #[.agg e.toArray] w λe w'=>((Np.VHist h/\∃ v',e = .returned (.tuple #[v',.int .i64 0])/\cB w.heap.size w' v' (Np.apexes h.copies))\/(¬ Np.VHist h/\e = .returned (.tuple #[.slice none 0 0,.int .i64 1])))/\Below w.heap.size w w':=by
 obtain⟨hv,cv,s,dv,cj,rfl,h1,h2,h3,h4,h5,h6⟩:=hh;obtain⟨hosts,copies,⟨name,ty,life,data⟩,hints,drift,stop⟩:=h;dsimp only at h1 h3 h4 h5 h6;subst h1;have H3:=jq h3;have H4:=jq h4;have H5:=jq h5;have H6:=jq h6;have gN:=jq hR;have cR:=jq hf;obtain⟨A1,c1,rfl,_,_⟩:=ag h3;obtain⟨A2,c2,rfl,_,_⟩:=ag h4;obtain⟨A3,c3,rfl,_,_⟩:=ag h5;obtain⟨A4,c4,rfl,_,_⟩:=ag h6;clear h3 h4 h5 h6 hR hf;obtain⟨r,hr⟩:∃ r,Np.yes (Np.VHist ⟨hosts,copies,⟨s.data.toList,ty,life,data⟩,hints,drift,stop⟩)=r:=⟨_,rfl⟩;have fi:=jq hr;obtain⟨n1,aJ⟩:∃ n,hosts.length=n:=⟨_,rfl⟩;obtain⟨n2,aK⟩:∃ n,copies.length=n:=⟨_,rfl⟩;obtain⟨n3,bk⟩:∃ n,data.length=n:=⟨_,rfl⟩;obtain⟨n4,bl⟩:∃ n,hints.length=n:=⟨_,rfl⟩;rw[aJ] at H3 |-;rw[aK] at H4 |-;rw[bk] at H5 |-;rw[bl] at H6 |-;clear hr aJ aK bk bl;obtain⟨X,hX⟩:∃ X,w.heap.size=X:=⟨_,rfl⟩;have gF:=jq hX;obtain⟨W1,ae⟩:∃ W1,w.alloc (.cells #[.slice A1 n1 c1,.slice A2 n2 c2,.string s,.int .i64 ty,.int .i64 life,.slice A3 n3 c3,.slice A4 n4 c4,.int .i64 drift,.int .i64 stop] 29)=W1:=⟨_,rfl⟩;have aw:Below w.heap.size w W1:=by rw[<-ae]; exact (vQ _ _).alloc (bQ _) _
 have eG:W1.heap.size=w.heap.size+1:=by rw[<-ae]; simp
 have k0:W1.cell? ⟨X,0,none⟩=some (.slice A1 n1 c1):=by rw[<-ae,<-hX]; simp[go_sem]
 have k1:W1.cell? ⟨X,1,none⟩=some (.slice A2 n2 c2):=by rw[<-ae,<-hX]; simp[go_sem]
 have k2:W1.cell? ⟨X,2,none⟩=some (.string s):=by rw[<-ae,<-hX]; simp[go_sem]
 have k3:W1.cell? ⟨X,3,none⟩=some (.int .i64 ty):=by rw[<-ae,<-hX]; simp[go_sem]
 have k4:W1.cell? ⟨X,4,none⟩=some (.int .i64 life):=by rw[<-ae,<-hX]; simp[go_sem]
 have k5:W1.cell? ⟨X,5,none⟩=some (.slice A3 n3 c3):=by rw[<-ae,<-hX]; simp[go_sem]
 have k6:W1.cell? ⟨X,6,none⟩=some (.slice A4 n4 c4):=by rw[<-ae,<-hX]; simp[go_sem]
 have k7:W1.cell? ⟨X,7,none⟩=some (.int .i64 drift):=by rw[<-ae,<-hX]; simp[go_sem]
 have k8:W1.cell? ⟨X,8,none⟩=some (.int .i64 stop):=by rw[<-ae,<-hX]; simp[go_sem]
 rw[hX] at aw eG H3 H4 H5 H6 gN |-;have ay:=jq aw;clear aw;go_enter func14,ntmps14;go_wp2_with fail;refine (L5 _ hosts _ copies s h2 ty life _ data _ hints drift stop cR.out.1 cR.out.2 _ ((gN.out.keep ay.out).more (by omega)) ((H3.out.keep fF ay.out).more jZ (by omega)) ((H4.out.keep fk ay.out).more kK (by omega)) ((H5.out.keep cL ay.out).more dp (by omega)) ((H6.out.keep iU ay.out).more nv (by omega))).mono ?_;rintro e w2 ⟨rfl,aa⟩;have aN:=aa.size;have m1:w2.cell? ⟨X,1,none⟩=some (.slice A2 n2 c2):=(aa.cell (by dsimp only; omega)).trans k1;have ak:=jq (ay.out.trans (aa.mono (by omega)));clear aa ae k0 k1 k2 k3 k4 k5 k6 k7 k8 hX;rw[fi.out]
 cases r with
 | false=>
  have HN:Hid (¬ Np.VHist ⟨hosts,copies,⟨s.data.toList,ty,life,data⟩,hints,drift,stop⟩):=jq (λh=>by have:=Np.bO h; rw[fi.out] at this; cases this);go_wp2_with fail;go_ret2;exact⟨.inr ⟨HN.out,rfl⟩,ak.out⟩
 | true=>
  have HV:Hid (Np.VHist ⟨hosts,copies,⟨s.data.toList,ty,life,data⟩,hints,drift,stop⟩):=jq (Np.eE.1 fi.out);have qP:Hid (copies.length<=500):=jq cR.out.1;go_wp2_with fail;refine (Nf _ copies (by have:=qP.out; omega) _ ((H4.out.keep fk ak.out).more kK (by omega))).mono ?_;rintro e w3 ⟨v3,rfl,jw,ah⟩;have dP:=ah.size;have eJ:=jq jw;have av:=jq (ak.out.trans (ah.mono (by omega)));clear jw ah;go_wp2_with fail;refine (Xm w2.heap.size _ _ _ eJ.out (Ms HV.out) (by have:=Np.vq (copies.map (·.zone.apex)); rw[List.length_map] at this; have:=qP.out; omega)).mono ?_;rintro e w4 ⟨rfl,kw,QF⟩;have H4':=jq (And.intro (cB.weak kw (show X<=w2.heap.size by omega)) (av.out.grown QF (by omega) (λq hq=>by have:=(World.ownsRow.lt eJ.out q hq).1; omega)));clear kw QF;go_wp2_with fail;go_ret2;exact⟨.inl ⟨HV.out,_,rfl,H4'.out.1⟩,H4'.out.2⟩
end
section
open Go.RowKit
section
variable {P:Program} {ops:Array Oper} {md:Region.Mode} {C:World->Prop}
end
section
variable {P:Program} {ops:Array Oper} {md:Region.Mode} {C:World->Prop} {Q:Exit->Act->World->Prop}
theorem DN(a:Act)(d:Nat)(v:Value)(h:d<a.tmps.size):(a.put (some d) v).eval (.tmp d)=v:=by
 simp[Act.put,Act.eval,h]
theorem vE(a:Act)(d j:Nat)(v:Value)(h:d≠j):(a.put (some d) v).eval (.tmp j)=a.eval (.tmp j):=by
 simp[Act.put,Act.eval,h,Array.getD_eq_getD_getElem?]
structure lE(ops:Array Oper)(D:List Nat)(dst:Nat->Nat)(val:Nat->Value)(base:List (Nat×Value))(m:Nat)(ds:List Deferred)(f:Nat)(listed:Array Bool)(a:Act):Prop where
 defs:a.defers=ds
 size:listed.size=ops.size
 left:listed.toList.count false=f
 not:∀ i,i<ops.size->i∉D->listed.getD i true=false
 val:∀ i∈D,listed.getD i false=true->a.eval (.tmp (dst i))=val i
 base:∀ q∈base,a.eval (.tmp q.1)=q.2
 tmps:a.tmps.size=m
theorem lE.step{ds:List Deferred}{D:List Nat}{dst:Nat->Nat}{val:Nat->Value}{base:List (Nat×Value)}{m f:Nat}{listed:Array Bool}{a:Act}{i:Nat}{o:Oper}(hg:lE ops D dst val base m ds (f+1) listed a)(hi:i∈D)(hr:listed.getD i true=false)(ho:ops[i]?=some o)(hd:o.dst=some (dst i))(ab:dst i<m)
 (mT:∀ j∈D,j≠i->dst i≠dst j) (hb:∀ q∈base,dst i≠q.1) (hy:YieldsIn P ops C o (val i) a):qOp P ops C i (lE ops D dst val base m ds f (listed.setIfInBounds i true)) a:=by
 refine hy.qOp ho ?_;rw[hd];have a3J:i<ops.size:=(eQ.1 ho).1;have ej:i<listed.size:=by rw[hg.size]; exact a3J
 have ac:listed[i]=false:=by simpa [Array.getD,ej] using hr
 refine⟨by simp[Act.put,hg.defs],by simp[hg.size],?_,?_,?_,?_,?_⟩
 ·have h1:=hg.left;rw[Array.toList_setIfInBounds,List.count_set (by simpa using ej)];simp[ac,h1]
 ·intro j hj qS;have hne:i≠j:=λe=>qS (e ▸ hi)
  have:=hg.not j hj qS
  simpa [Array.getD,hg.size,hj,Array.getElem_setIfInBounds,hne] using this
 ·intro j hj hl;by_cases hne:i=j
  ·subst hne;exact DN a _ _ (by rw[hg.tmps]; exact ab)
  ·rw[vE _ _ _ _ (mT j hj (λe=>hne e.symm))];refine hg.val j hj ?_;by_cases od:j<listed.size
   ·simpa [Array.getD,od,Array.getElem_setIfInBounds,hne] using hl
   ·simp[Array.getD,od] at hl
 ·intro q hq;rw[vE _ _ _ _ (hb q hq)];exact hg.base q hq
 ·simp[Act.put,hg.tmps]
theorem lE.none{ds:List Deferred}{D:List Nat}{dst:Nat->Nat}{val:Nat->Value}{base:List (Nat×Value)}{m:Nat}{listed:Array Bool}{a:Act}{p:Nat}(hp:p<ops.size)(oj:p∉D):¬ lE ops D dst val base m ds 0 listed a:=λhg=>by
 have h1:=hg.not p hp oj;have ej:p<listed.size:=by rw[hg.size]; exact hp
 have ac:listed[p]=false:=by simpa [Array.getD,ej] using h1
 have h2:=hg.left;rw[List.count_eq_zero] at h2;exact h2 (by rw[<-ac]; simp)
theorem lE.start{D:List Nat}{dst:Nat->Nat}{val:Nat->Value}{base:List (Nat×Value)}{m:Nat}{a:Act}(hb:∀ q∈base,a.eval (.tmp q.1)=q.2)(hm:a.tmps.size=m):lE ops D dst val base m a.defers ops.size (Array.replicate ops.size false) a:=
 ⟨rfl,by simp,by simp,λi hi _=>by simp[Array.getD,hi],λi _ h=>by simp[Array.getD] at h,hb,hm⟩
theorem No{listed:Array Bool}(hw:∀ (i:Nat) (o:Oper),ops[i]?=some o->∀ e∈o.after,e.on<i)(an:listed.size=ops.size):∀ p,p<ops.size->listed.getD p true=false->Region.ready md ops listed≠[]:=by
 intro p
 induction p using Nat.strongRecOn with
 | _ p ih=>
  intro hp hl;by_cases ax:∀ e∈(ops[p]).after,Region.binds md e=true->listed.getD e.on false=true
  ·intro h0
   have:p∈Region.ready md ops listed:=mem_ready.2 ⟨hl,ops[p],pQ hp,ax⟩
   rw[h0] at this
   cases this
  ·simp only[Classical.not_forall] at ax;obtain⟨e,he,hb,hne⟩:=ax;have ab:=hw p _ (pQ hp) e he;refine ih e.on ab (by omega) ?_;have h1:e.on<listed.size:=by omega
   simpa [Array.getD,h1] using hne
def Il(ops:Array Oper):Bool:=(List.range ops.size).all λi=>match ops[i]? with
 | some o=>o.after.all λe=>decide (e.on<i)
 | none=>true
def Pq(ops:Array Oper)(D:List Nat)(p:Nat):Bool:=(List.range ops.size).all λi=>D.contains i||i == p||match ops[i]? with
 | some o=>o.after.any λe=>Region.binds .any e&&!D.contains e.on&&decide (e.on<ops.size)
 | none=>true
theorem fM(h:Il ops=true):∀ (i:Nat) (o:Oper),ops[i]?=some o->∀ e∈o.after,e.on<i:=by
 intro i o ho e he;unfold Il at h;rw[List.all_eq_true] at h;have h1:=h i (by rw[List.mem_range]; exact (eQ.1 ho).1);rw[ho] at h1;simp only[Array.all_eq_true_iff_forall_mem,Qa] at h1;exact h1 e he
theorem fD{D:List Nat}{p:Nat}(h:Pq ops D p=true):∀ (i:Nat) (o:Oper),ops[i]?=some o->i∉D->i≠p->∃ e∈o.after,Region.binds .any e=true/\e.on∉D/\e.on<ops.size:=by
 intro i o ho hD hp;unfold Pq at h;rw[List.all_eq_true] at h;have h1:=h i (by rw[List.mem_range]; exact (eQ.1 ho).1);rw[ho] at h1;simp only[Bool.or_eq_true,List.contains_iff_mem,hD,beq_iff_eq,hp,false_or] at h1;rw[Array.any_eq_true'] at h1;obtain⟨e,he,h2⟩:=h1;simp only[Bool.and_eq_true,Bool.not_eq_true',Qa] at h2;have h3:e.on∉D:=λhm=>by
  have:=h2.1.2
  rw[List.contains_iff_mem.2 hm] at this
  cases this
 exact⟨e,he,h2.1.1,h3,h2.2⟩
end
section
variable {P:Program} {ops:Array Oper} {Q:Exit->Act->World->Prop}
structure Held(ops:Array Oper)(D A:List Nat)(dst:Nat->Nat)(val:Nat->Value)(base:List (Nat×Value))(m:Nat)(ds:List Deferred)(f:Nat)(listed:Array Bool)(a:Act):Prop where
 good:lE ops D dst val base m ds f listed a
 done:∀ i∈A,listed.getD i false=true
 clo:∀ j o,ops[j]?=some o->listed.getD j false=true->∀ e∈o.after,Region.binds .any e=true->listed.getD e.on false=true
theorem Dw{listed:Array Bool}{i j:Nat}(h:(listed.setIfInBounds i true).getD j false=true):j=i\/listed.getD j false=true:=by
 by_cases dL:i=j
 ·exact .inl dL.symm
 ·rw[getD_set_ne false dL] at h; exact .inr h
theorem kL{listed:Array Bool}{i j:Nat}(h:listed.getD j false=true):(listed.setIfInBounds i true).getD j false=true:=by
 by_cases dL:i=j
 ·subst dL;have hl:i<listed.size:=by
   by_cases hl:i<listed.size
   ·exact hl
   ·simp[Array.getD,hl] at h
  simp[Array.getD,hl]
 ·rw[getD_set_ne false dL]; exact h
theorem D4{listed:Array Bool}{i:Nat}(hr:i∈Region.ready .any ops listed)(h:∀ j o,ops[j]?=some o->listed.getD j false=true->∀ e∈o.after,Region.binds .any e=true->listed.getD e.on false=true) :
 ∀ j o,ops[j]?=some o->(listed.setIfInBounds i true).getD j false=true->∀ e∈o.after,Region.binds .any e=true->(listed.setIfInBounds i true).getD e.on false=true:=λj o ho hj e he hb=>by
 refine kL ?_;rcases Dw hj with rfl | hj
 ·obtain⟨_,o',ho',ax⟩:=mem_ready.1 hr;rw[ho] at ho'; cases ho';exact ax e he hb
 ·exact h j o ho hj e he hb
theorem fN{w:World}{D A:List Nat}{dst:Nat->Nat}{val:Nat->Value}{base:List (Nat×Value)}{m p:Nat}{ds:List Deferred}
 (hw:∀ (i:Nat) (o:Oper),ops[i]?=some o->∀ e∈o.after,e.on<i) (hp:p<ops.size) (oj:p∉D)
 (BJ:∀ (i:Nat) (o:Oper),ops[i]?=some o->i∉D->i≠p->∃ e∈o.after,Region.binds .any e=true/\e.on∉D/\e.on<ops.size)
 (xL:∀ i∈D,i∉A->∃ o:Oper,ops[i]?=some o/\o.dst=some (dst i)) (ab:∀ i∈D,dst i<m) (mT:∀ i∈D,∀ j∈D,j≠i->dst i≠dst j) (jc:∀ i∈D,∀ q∈base,dst i≠q.1)
 (hy:∀ i∈D,i∉A->∀ o:Oper,ops[i]?=some o->∀ a:Act,(∀ q∈base,a.eval (.tmp q.1)=q.2)->(∀ e∈o.after,Region.binds .any e=true->e.on∈D->a.eval (.tmp (dst e.on))=val e.on)->YieldsIn P ops (λw'=>w'=w) o (val i) a)
 (xG:∀ f listed a,Held ops D A dst val base m ds (f+1) listed a->p∈Region.ready .any ops listed->wpOp P ops Q p (wpAny P .any ops Q f (listed.setIfInBounds p true)) a w) :
 ∀ f listed a,Held ops D A dst val base m ds f listed a->wpAny P .any ops Q f listed a w:=by
 intro f
 induction f with
 | zero=>intro listed a h; exact absurd h.good (lE.none hp oj)
 | succ f ih=>
  intro listed a h;have hg:=h.good;refine⟨λh0=>absurd h0 (No hw hg.size p hp (hg.not p hp oj)),λi hi=>?_⟩;obtain⟨hr,o,ho,ax⟩:=mem_ready.1 hi;by_cases hip:i=p
  ·subst hip; exact xG f listed a h hi
  ·have gz:i∈D:=Decidable.byContradiction λgz=>by
    obtain⟨e,he,pN,iB,hes⟩:=BJ i o ho gz hip;have h1:=ax e he pN;have h2:=hg.not e.on hes iB;have h3:e.on<listed.size:=by rw[hg.size]; exact hes
    simp[Array.getD,h3] at h1 h2;rw[h1] at h2
    cases h2
   have ar:i∉A:=λhA=>by
    have h1:=h.done i hA;have h3:i<listed.size:=by rw[hg.size]; exact (eQ.1 ho).1
    simp[Array.getD,h3] at h1 hr;rw[h1] at hr; cases hr
   obtain⟨o',ho',hd⟩:=xL i gz ar;rw[ho] at ho'; cases ho';have Ca:∀ e∈o.after,Region.binds .any e=true->e.on∈D->a.eval (.tmp (dst e.on))=val e.on:=λe he pN hD=>hg.val _ hD (ax e he pN);have hq:=lE.step (P:=P) hg gz hr ho hd (ab i gz) (mT i gz) (jc i gz) (hy i gz ar o ho a hg.base Ca);exact wpOp_of_qOp (C:=λw'=>w'=w) rfl (λa' w' hw' h'=>by subst hw'; exact ih _ a' ⟨h',λj hj=>kL (h.done j hj),D4 hi h.clo⟩) hq
theorem Held.act{D A D':List Nat}{dst:Nat->Nat}{val val':Nat->Value}{base:List (Nat×Value)}{m p f:Nat}{ds:List Deferred}{listed:Array Bool}{a:Act}{v:Value}(h:Held ops D A dst val base m ds (f+1) listed a)(hp:p∈Region.ready .any ops listed)
 (oj:p∉D) (hD:∀ i,i∉D'->i∉D/\i≠p) (hval:∀ i∈D,val' i=val i) (hvp:val' p=v) (ab:dst p<m) (mT:∀ j∈D,dst p≠dst j) (hb:∀ q∈base,dst p≠q.1) (ew:p<ops.size) :
 Held ops D' (p::A) dst val' base m ds f (listed.setIfInBounds p true) (a.put (some (dst p)) v):=by
 have hg:=h.good;have gl:=(mem_ready.1 hp).1;have ej:p<listed.size:=by rw[hg.size]; exact ew
 have ac:listed[p]=false:=by simpa [Array.getD,ej] using gl
 refine⟨⟨by simp[Act.put,hg.defs],by simp[hg.size],?_,?_,?_,?_,by simp[Act.put,hg.tmps]⟩,?_,D4 hp h.clo⟩
 ·have h1:=hg.left;rw[Array.toList_setIfInBounds,List.count_set (by simpa using ej)];simp[ac,h1]
 ·intro j hj qS;obtain⟨h1,h2⟩:=hD j qS
  have:=hg.not j hj h1
  rw[getD_set_ne true (λe=>h2 e.symm)];exact this
 ·intro j hj hl;rcases Dw hl with rfl | hl
  ·rw[hvp]; exact DN a _ _ (by rw[hg.tmps]; exact ab)
  ·have qS:j∈D:=Decidable.byContradiction λqS=>by
    by_cases Cf:j<ops.size
    ·have h1:=hg.not j Cf qS;have h3:j<listed.size:=by rw[hg.size]; exact Cf
     simp[Array.getD,h3] at h1 hl;rw[h1] at hl; cases hl
    ·have h3:¬ j<listed.size:=by rw[hg.size]; exact Cf
     simp[Array.getD,h3] at hl
   rw[vE _ _ _ _ (mT j qS),hval j qS];exact hg.val j qS hl
 ·intro q hq;rw[vE _ _ _ _ (hb q hq)];exact hg.base q hq
 ·intro i hi;rcases List.mem_cons.1 hi with rfl | hi
  ·simp[Array.getD,ej]
  ·exact kL (h.done i hi)
def Ec(ops:Array Oper)(p:Nat):Bool:=(List.range ops.size).all λi=>i == p||(List.range ops.size).any λj=>decide (i<j)&&match ops[j]? with
 | some o=>o.after.any λe=>Region.binds .any e&&e.on == i
 | none=>false
theorem Held.all{D A:List Nat}{dst:Nat->Nat}{val:Nat->Value}{base:List (Nat×Value)}{m p f:Nat}{ds:List Deferred}{listed:Array Bool}{a:Act}(h:Held ops D A dst val base m ds (f+1) listed a)(hp:p∈Region.ready .any ops listed)(hl:Ec ops p=true) :
 f=0/\∀ i,i<ops.size->i≠p->listed.getD i false=true:=by
 unfold Ec at hl;rw[List.all_eq_true] at hl;have key:∀ k i,ops.size - i=k->i<ops.size->i≠p->listed.getD i false=true:=by
  intro k
  induction k using Nat.strongRecOn with
  | ind k ih=>
   intro i hk his hip;have h1:=hl i (by rw[List.mem_range]; exact his);simp only[Bool.or_eq_true,beq_iff_eq,hip,false_or,List.any_eq_true,List.mem_range,Bool.and_eq_true,Qa] at h1;obtain⟨j,hj,dL,h2⟩:=h1;rw[pQ hj] at h2;simp only[Array.any_eq_true',Bool.and_eq_true,beq_iff_eq] at h2;obtain⟨e,he,hb,rfl⟩:=h2;by_cases xy:j=p
   ·subst xy;obtain⟨_,o,ho,ax⟩:=mem_ready.1 hp;rw[pQ hj] at ho
    cases ho
    exact ax e he hb
   ·exact h.clo j _ (pQ hj) (ih (ops.size - j) (by omega) j rfl hj xy) e he hb
 have ew:p<ops.size:=by
  obtain⟨_,o,ho,_⟩:=mem_ready.1 hp;exact (eQ.1 ho).1
 refine⟨?_,λi hi hne=>key _ i rfl hi hne⟩;have an:=h.good.size;have a9X:=h.good.left;have hc:listed.toList.count false<=1:=by
  have lu:p<listed.toList.length:=by simp[an,ew]
  have ax:∀ j (hj:j<listed.toList.length),j≠p->listed.toList[j]=true:=λj hj hne=>by
   have hj':j<listed.size:=by simpa using hj
   have:=key _ j rfl (by rw[<-an]; exact hj') hne
   simpa [Array.getD,hj'] using this
  have e:listed.toList=listed.toList.take p++listed.toList[p]::listed.toList.drop (p+1):=by
   rw[<-sQ lu,List.take_append_drop]
  rw[e,List.count_append,List.count_cons];have c1:(listed.toList.take p).count false=0:=List.count_eq_zero.2 λhm=>by
   obtain⟨j,hj,sr⟩:=nQ.1 hm;rw[List.getElem_take] at sr;rw[List.length_take] at hj;rw[ax j (by omega) (by omega)] at sr
   cases sr
  have c2:(listed.toList.drop (p+1)).count false=0:=List.count_eq_zero.2 λhm=>by
   obtain⟨j,hj,sr⟩:=nQ.1 hm;rw[List.getElem_drop] at sr;rw[List.length_drop] at hj;rw[ax _ (by omega) (by omega)] at sr
   cases sr
  rw[c1,c2];split <;> omega
 omega
theorem Held.start{D:List Nat}{dst:Nat->Nat}{val:Nat->Value}{base:List (Nat×Value)}{m:Nat}{a:Act}(hb:∀ q∈base,a.eval (.tmp q.1)=q.2)(hm:a.tmps.size=m):Held ops D [] dst val base m a.defers ops.size (Array.replicate ops.size false) a:=
 ⟨lE.start hb hm,(λ_ h=>by cases h),λj o ho hj=>by simp[Array.getD] at hj⟩
end
end
section
open Go.RowKit
theorem pz{md:Region.Mode}{ops:Array Oper}{listed:Array Bool}(h:∀ i,i<ops.size->listed.getD i false=true)(hs:listed.size=ops.size):Region.ready md ops listed = []:=by
 apply List.eq_nil_iff_forall_not_mem.2;intro i hi;obtain⟨h1,o,ho,_⟩:=mem_ready.1 hi;have ab:=(eQ.1 ho).1;have h2:=h i ab;have h3:i<listed.size:=by rw[hs]; exact ab
 simp[Array.getD,h3] at h1 h2;rw[h1] at h2; cases h2
def jJ(a:Act):List (Nat×Value)->Act
 | []=>a
 | q::l=>jJ (a.put (some q.1) q.2) l
theorem ZX{a b:Act}(hs:a.tmps.size=b.tmps.size)(hd:a.defers=b.defers)(h:∀ j,a.eval (.tmp j)=b.eval (.tmp j)):a=b:=by
 obtain⟨t,d⟩:=a;obtain⟨t',d'⟩:=b;simp only at hs hd;subst hd;congr 1;apply Array.ext hs;intro i h1 h2
 have:=h i
 simpa [Act.eval,Array.getD_eq_getD_getElem?,h1,h2] using this
theorem NZ{a a0:Act}(hs:a.tmps.size=a0.tmps.size)(hd:a.defers=a0.defers):∀ (l:List (Nat×Value)),(∀ q∈l,q.1<a0.tmps.size)->(∀ q∈l,a.eval (.tmp q.1)=q.2)->(∀ j,(∀ q∈l,q.1≠j)->a.eval (.tmp j)=a0.eval (.tmp j))->a=jJ a0 l:=by
 intro l
 induction l generalizing a0 with
 | nil=>intro _ _ h; exact ZX hs hd (λj=>h j (λq hq=>by cases hq))
 | cons q l ih=>
  intro ab h1 h2;rw[jJ];refine ih (by simpa [Act.put] using hs) (by simpa [Act.put] using hd) (λp hp=>by have:=ab p (mQ _ hp); simpa [Act.put] using this) (λp hp=>h1 p (mQ _ hp)) (λj hj=>?_);by_cases hq:q.1=j
  ·subst hq;rw[DN _ _ _ (ab q (by simp))];exact h1 q (by simp)
  ·rw[vE _ _ _ _ hq];refine h2 j (λp hp=>?_);rcases List.mem_cons.1 hp with rfl | hp
   ·exact hq
   ·exact hj p hp
def dt(a0:Act)(m:Nat)(ds:List Nat):List (Nat×Value):=((List.range m).filter λj=>!ds.contains j).map λj=>(j,a0.eval (.tmp j))
theorem pw{a0:Act}{m:Nat}{ds:List Nat} : ∀ q∈dt a0 m ds,a0.eval (.tmp q.1)=q.2:=λq hq=>by
 obtain⟨j,_,rfl⟩:=List.mem_map.1 hq;rfl
theorem cx{a0:Act}{m:Nat}{ds:List Nat}{d:Nat}(hd:d∈ds):∀ q∈dt a0 m ds,d≠q.1:=λq hq e=>by
 obtain⟨j,hj,rfl⟩:=List.mem_map.1 hq
 have:=(List.mem_filter.1 hj).2
 simp only at e;subst e;simp[hd] at this
theorem aT{a0 a:Act}{m:Nat}{ds:List Nat}(h:∀ q∈dt a0 m ds,a.eval (.tmp q.1)=q.2){j:Nat}(hj:j<m)(hd:j∉ds):a.eval (.tmp j)=a0.eval (.tmp j):=
 h (j,a0.eval (.tmp j)) (List.mem_map.2 ⟨j,List.mem_filter.2 ⟨List.mem_range.2 hj,by simpa using hd⟩,rfl⟩)
theorem AF{P:Program}{c:Code}{Q:Exit->Act->World->Prop}{a:Act}{w:World}(h:∀ a0,a0=a->c.wp P Q a0 w):c.wp P Q a w:=h a rfl
variable {ops:Array Oper}
theorem Held.frame{D A:List Nat}{dst:Nat->Nat}{val:Nat->Value}{m f:Nat}{listed:Array Bool}{a a0:Act}(h:Held ops D A dst val (dt a0 m (D.map dst)) m a0.defers f listed a)(hm:a0.tmps.size=m)(ax:∀ i∈D,listed.getD i false=true)(ab:∀ i∈D,dst i<m) :
 a=jJ a0 (D.map λi=>(dst i,val i)):=by
 refine NZ (by rw[h.good.tmps,hm]) h.good.defs _ (λq hq=>?_) (λq hq=>?_) (λj hj=>?_)
 ·obtain⟨i,hi,rfl⟩:=List.mem_map.1 hq;rw[hm]; exact ab i hi
 ·obtain⟨i,hi,rfl⟩:=List.mem_map.1 hq;exact h.good.val i hi (ax i hi)
 ·by_cases Cm:j<m
  ·refine aT h.good.base Cm (λhd=>?_);obtain⟨i,hi,rfl⟩:=List.mem_map.1 hd;exact hj _ (List.mem_map.2 ⟨i,hi,rfl⟩) rfl
  ·have h1:=h.good.tmps;simp[Act.eval,Array.getD_eq_getD_getElem?,h1,hm,Cm]
end
section
open Go.RowKit
def mf(vo:Value)(X b o k n2 c2:Nat)(xh:Int)(sn:ByteArray)(Az:Option Addr)(nz cz:Nat)(e14:Value)(e15:Value)(i:Nat):Value:=[vo,.pointer (some ⟨X,1,none⟩),.slice (some ⟨b,o,none⟩) n2 c2,.int .i64 (k:Nat),.pointer (some ⟨b,o+k * 5,none⟩),.pointer (some ⟨b,o+k * 5,none⟩),.int .i64 xh,.pointer (some ⟨X,1,none⟩),.slice (some ⟨b,o,none⟩) n2 c2,.int .i64 (k:Nat),.pointer (some ⟨b,o+k * 5,none⟩),.pointer (some ⟨b,o+k * 5+3,none⟩),.agg #[.string sn,.slice Az nz cz],.agg #[.int .i64 xh,.string sn,.slice Az nz cz],e14,e15,undef].getD i undef
def ki(i:Nat):Nat:=[32,33,34,35,36,37,38,39,40,41,42,43,44,45,46,47,5].getD i 0
def D7:List Nat:=[0,1,2,3,4,5,6,7,8,9,10,11,12,13,14,15].map ki
theorem rH:∀ i∈[0,1,2,3,4,5,6,7,8,9,10,11,12,13,14,15],ki i<49/\ki i∈D7:=by decide
theorem Ae:∀ i∈[0,1,2,3,4,5,6,7,8,9,10,11,12,13,14,15],∀ j∈[0,1,2,3,4,5,6,7,8,9,10,11,12,13,14,15],j≠i->ki i≠ki j:=by decide
theorem Ux(l:List Np.Copy)(x:Np.Copy)(t:Int):Np.bS (l ++ [x]) t=if decide (x.frm<=t)&&decide (t<x.til) then Np.bS l t ++ [x] else Np.bS l t:=by
 unfold Np.bS;rw[List.filter_append]
 cases h:decide (x.frm<=t)&&decide (t<x.til) <;> simp[h]
theorem Gu(l:List Np.Copy)(t:Int):(Np.bS l t).length<=l.length:=List.length_filter_le _ _
theorem Tryz.infoPlaced:(prog.info? 60).map (λi=>(i.zero,i.size,i.bytes))=some (some (.agg #[.int .i64 0,.string ⟨#[]⟩,.slice none 0 0]),3,48):=by kernel_rfl
theorem Wc(e:List Value)(h:Np.Hist)(h5:h.copies.length<=500)(t:Int)(w:World)(B:Nat)(hB:B<=w.heap.size)(hh:bw w B e h) :
 Calls prog 93 #[.agg e.toArray,.int .i64 t] w λe w'=>∃ v',e = .returned v'/\fP il 3 B w.heap.size w' v' ((Np.bS h.copies t).map Np.eV)/\Below w.heap.size w w':=by
 obtain⟨hv,cv,s,dv,cj,rfl,_,_,h3,h4,h5',h6⟩:=hh;obtain⟨hosts,copies,⟨name,ty,life,data⟩,hints,drift,stop⟩:=h;dsimp only at h3 h4 h5' h6 h5 |-;have HD:=jq h4;obtain⟨A1,c1,rfl,_,_⟩:=ag h3;obtain⟨A2,c2,rfl,_,_⟩:=ag h4;obtain⟨A3,c3,rfl,_,_⟩:=ag h5';obtain⟨A4,c4,rfl,_,_⟩:=ag h6;clear h3 h4 h5' h6;obtain⟨n1,aJ⟩:∃ n,hosts.length=n:=⟨_,rfl⟩;obtain⟨n2,aK⟩:∃ n,copies.length=n:=⟨_,rfl⟩;obtain⟨n3,bk⟩:∃ n,data.length=n:=⟨_,rfl⟩;obtain⟨n4,bl⟩:∃ n,hints.length=n:=⟨_,rfl⟩;rw[aJ,aK,bk,bl];rw[aK] at HD h5;have er:=jq aK;clear aJ aK bk bl;obtain⟨i0,nj,ea,bI,aN⟩:=info_parts Tryz.infoPlaced;obtain⟨X,hX⟩:∃ X,w.heap.size=X:=⟨_,rfl⟩;obtain⟨W1,ae⟩:∃ W1,w.alloc (.cells #[.slice A1 n1 c1,.slice A2 n2 c2,.string s,.int .i64 ty,.int .i64 life,.slice A3 n3 c3,.slice A4 n4 c4,.int .i64 drift,.int .i64 stop] 29)=W1:=⟨_,rfl⟩;have aw:Below w.heap.size w W1:=by rw[<-ae]; exact (vQ _ _).alloc (bQ _) _
 have eG:W1.heap.size=w.heap.size+1:=by rw[<-ae]; simp
 have k1:W1.cell? ⟨X,1,none⟩=some (.slice A2 n2 c2):=by rw[<-ae,<-hX]; simp[go_sem]
 rw[hX] at aw eG hB |-;have ay:=jq aw;clear aw;go_enter func93,ntmps93;go_wp2_with fail;clear ae hX;go_loopw [5,6] (λvo i wr=>∃ (k:Nat),k<=n2/\i = .int .i64 k/\X<wr.heap.size/\Hid (Below (X+1) W1 wr)/\∃ M,Hid (bJ il 3 60 (X+1) M wr vo ((Np.bS (copies.take k) t).map Np.eV))/\Hid ((∀ g,M g->B<=g)/\∀ g,B<=g->g<X->M g)) (λ_ i _=>n2 - (intOf i).toNat)
 case atStart=>exact⟨0,jQ _,rfl,by omega,jq (vQ _ _),λg=>B<=g/\g<X,jq (by rw[List.take_zero]; exact bJ.nil _),jq ⟨λg h=>h.1,λg h1 h2=>⟨h1,h2⟩⟩⟩
 case round=>
  obtain⟨k,hk,rfl,uE,aO,M,HO,yZ⟩:=hrel;have HB:=jq (ay.out.trans (aO.out.mono (by omega)));have q1:=(cl aO.out (by omega)).trans k1;by_cases ab:k<n2
  ·obtain⟨x,ac⟩:∃ x,copies[k]?=some x:=⟨_,aQ (by rw[er.out]; exact ab)⟩;obtain⟨b,o,sn,vz,rfl,bg,az,bL,bX,f0,f1,f2,f3,f4⟩:=nC (HD.out.keep fk (HB.out.mono hB)) ac;have dU:=jq bX;obtain⟨Az,cz,rfl,_,_⟩:=ag bX;obtain⟨nz,iq⟩:∃ nz,x.zone.sets.length=nz:=⟨_,rfl⟩;rw[iq] at f4 dU;have HT:Hid (Np.bS (copies.take (k+1)) t=if decide (x.frm<=t)&&decide (t<x.til) then Np.bS (copies.take k) t ++ [x] else Np.bS (copies.take k) t):=jq (by
    obtain⟨hl,he⟩:=cQ.1 ac;rw[fQ hl,he];exact Ux _ _ _)
   have aS:=jq (And.intro az bL);clear ac az bX iq bL;have bW:(0:Int)<=(k:Int):=by omega
   have bV:(k:Int)<(n2:Int):=by omega
   have ou:=ab;by_cases h1:x.frm<=t
   case neg=>
    have ed:decide (x.frm<=t)=false:=tQ h1;have fV:Hid (Np.bS (copies.take (k+1)) t=Np.bS (copies.take k) t):=jq (by rw[HT.out,ed]; rfl);clear h1;go_wp2_with fail;go_roundw
    case rel=>exact⟨k+1,by omega,by go_num,by omega,aO,M,jq (by rw[fV.out]; exact HO.out),yZ⟩
    case measure=>simp[intOf] <;> omega
   have ed:decide (x.frm<=t)=true:=uQ h1;by_cases h2:t<x.til
   case neg=>
    have ed2:decide (t<x.til)=false:=tQ h2;have fV:Hid (Np.bS (copies.take (k+1)) t=Np.bS (copies.take k) t):=jq (by rw[HT.out,ed2,Bool.and_false]; rfl);clear h1 h2;go_wp2_with fail;go_roundw
    case rel=>exact⟨k+1,by omega,by go_num,by omega,aO,M,jq (by rw[fV.out]; exact HO.out),yZ⟩
    case measure=>simp[intOf] <;> omega
   have ed2:decide (t<x.til)=true:=uQ h2;have fV:Hid ((Np.bS (copies.take (k+1)) t).map Np.eV=(Np.bS (copies.take k) t).map Np.eV ++ [⟨x.host,x.zone⟩]):=jq (by rw[HT.out,ed,ed2]; simp[Np.eV]);have jD:Hid (((Np.bS (copies.take k) t).map Np.eV).length<=500):=jq (by have:=Gu (copies.take k) t; rw[List.length_take] at this; rw[List.length_map]; omega);obtain⟨ps,ew⟩:∃ ps,(Np.bS (copies.take k) t).map Np.eV=ps:=⟨_,rfl⟩;rw[ew] at fV HO jD;have a4K:Hid (ps.length + [(⟨x.host,x.zone⟩:Np.Placed)].length<=maxLen):=jq (by have:=jD.out; simp[maxLen]; omega);have EC:Hid ((ps.length + [(⟨x.host,x.zone⟩:Np.Placed)].length) * 48<=140737488355328):=jq (by have:=jD.out; simp; omega);have BO:Hid (∀ W5,Below wr.heap.size wr W5->il (bp W5 M) W5.heap.size [.int .i64 x.host,.string sn,.slice Az nz cz] ⟨x.host,x.zone⟩):=jq (λW5 hb=>⟨sn,_,aS.out.1,aS.out.2,SlR.around (dU.out.keep aV (hb.mono (by omega))) aV bR (λg hg=>yZ.out.1 g hg) (by have:=hb.size; omega),rfl⟩);clear ew h1 h2;go_wp2_with fail;clear f1 f2;refine AF λa0 bi=>?_;have jg:=jq bi;have oq:=jq (show a0.eval (.tmp 2) = .pointer (some ⟨X,0,none⟩) by rw[bi]; rfl);have mW:=jq (show a0.eval (.tmp 5)=u5 by rw[bi]; rfl);have iM:=jq (show a0.eval (.tmp 6) = .int .i64 (k:Nat) by rw[bi]; rfl);have HM:=jq (show a0.tmps.size=49 by rw[bi]; rfl);clear bi;refine wp_region_any (by kernel_rfl) ?_;refine fN (w:=wr.drew) (D:=[0,1,2,3,4,5,6,7,8,9,10,11,12,13]) (A:=[]) (p:=14) (dst:=ki) (val:=mf u5 X b o k n2 c2 x.host sn Az nz cz undef undef) (m:=49)
    (base:=dt a0 49 D7) (fM (by kernel_rfl)) (by simp) (by simp) (fD (by kernel_rfl)) ?_
    (λi hi=>(rH i (by simp at hi |-; omega)).1) (λi hi j hj=>Ae i (by simp at hi |-; omega) j (by simp at hj |-; omega)) (λi hi=>cx (rH i (by simp at hi |-; omega)).2) ?_ ?_ _ _ _ (Held.start (λq hq=>pw q hq) HM.out)
   ·intro i hi ar;simp only[List.mem_cons,Qh,or_false] at hi;rcases hi with rfl | rfl | rfl | rfl | rfl | rfl | rfl | rfl | rfl | rfl | rfl | rfl | rfl | rfl
    all_goals first | (exfalso; simp at ar; done) | exact⟨_,rfl,rfl⟩
   ·intro i hi ar o ho a' hb aR;have k2':=(aT hb (j:=2) (by decide) (by decide)).trans oq.out;have k5':=(aT hb (j:=5) (by decide) (by decide)).trans mW.out;have k6':=(aT hb (j:=6) (by decide) (by decide)).trans iM.out;simp[Act.eval] at k2' k5' k6';simp only[List.mem_cons,Qh,or_false] at hi;rcases hi with rfl | rfl | rfl | rfl | rfl | rfl | rfl | rfl | rfl | rfl | rfl | rfl | rfl | rfl
    all_goals first
     | (exfalso; simp at ar; done)
     | (cases ho
        try simp[Act.eval,Region.binds,mf,ki] at aR
        refine .inl ⟨by simp[Region.wanted],λw' hw'=>?_⟩;subst hw';simp[Oper.quietAt,Oper.quietUpon,execOp,go_sem,mf,k2',k5',k6',q1,f0,f3,f4,bW,bV,aR])
   ·intro f listed a' hH hr;obtain⟨_,o,ho,ax⟩:=mem_ready.1 hr
    cases ho
    have hG:=hH.good;have hval:=λi hi hl=>hG.val i hi hl;have bB:∀ k,({ on:=k,ground:=.data } : Edge)∈_->listed.getD k false=true:=λk hk=>ax _ hk rfl;have av13:=hval 13 (by simp) (bB 13 (by simp));simp[Act.eval,mf,ki] at av13;simp only[wpOp];simp[Region.wanted];refine .inl ?_;simp[Oper.wp,execOp,go_sem,av13];obtain⟨W5,Et⟩:∃ W5,W5=(wr.alloc (.cells #[.int .i64 x.host,.string sn,.slice Az nz cz] 60)).drew:=⟨_,rfl⟩;have aA:Below wr.heap.size wr W5:=by rw[Et]; exact ((vQ _ _).alloc (bQ _) _).drew
    have Q7:cN W5 wr.heap.size 0 [.int .i64 x.host,.string sn,.slice Az nz cz]:=λj v hj=>by
     rw[Et]
     match j,hj with
     | 0,hj=>cases hj; simp[go_sem]
     | 1,hj=>cases hj; simp[go_sem]
     | 2,hj=>cases hj; simp[go_sem]
     | j+3,hj=>simp at hj
    rw[<-Et];have ca:=jq aA;have cK:=jq Q7;clear Et Q7;have q1:=(cl aA (by omega)).trans q1;have f0:=(cl aA (by omega)).trans f0;have f3:=(cl aA (by omega)).trans f3;have f4:=(cl aA (by omega)).trans f4;clear aA;refine fN (w:=W5) (D:=[0,1,2,3,4,5,6,7,8,9,10,11,12,13,14]) (A:=[14]) (p:=15) (dst:=ki) (val:=mf u5 X b o k n2 c2 x.host sn Az nz cz (.slice (some ⟨wr.heap.size,0,none⟩) 1 1) undef) (m:=49)
     (base:=dt a0 49 D7) (fM (by kernel_rfl)) (by simp) (by simp) (fD (by kernel_rfl)) ?_
     (λi hi=>(rH i (by simp at hi |-; omega)).1) (λi hi j hj=>Ae i (by simp at hi |-; omega) j (by simp at hj |-; omega)) (λi hi=>cx (rH i (by simp at hi |-; omega)).2) ?_ ?_ _ _ _ (hH.act (D':=[0,1,2,3,4,5,6,7,8,9,10,11,12,13,14]) (val':=mf u5 X b o k n2 c2 x.host sn Az nz cz (.slice (some ⟨wr.heap.size,0,none⟩) 1 1) undef) hr (by simp) (λi hi=>by simp at hi |-; omega) (λi hi=>by simp at hi; rcases hi with rfl | rfl | rfl | rfl | rfl | rfl | rfl | rfl | rfl | rfl | rfl | rfl | rfl | rfl <;> rfl) rfl (by simp[ki]) (λj hj=>Ae 14 (by simp) j (by simp at hj |-; omega) (by rintro rfl; simp at hj)) (cx (rH 14 (by simp)).2) (by simp))
    ·intro i hi ar;simp only[List.mem_cons,Qh,or_false] at hi;rcases hi with rfl | rfl | rfl | rfl | rfl | rfl | rfl | rfl | rfl | rfl | rfl | rfl | rfl | rfl | rfl
     all_goals first | (exfalso; simp at ar; done) | exact⟨_,rfl,rfl⟩
    ·intro i hi ar o ho a' hb aR;have k2':=(aT hb (j:=2) (by decide) (by decide)).trans oq.out;have k5':=(aT hb (j:=5) (by decide) (by decide)).trans mW.out;have k6':=(aT hb (j:=6) (by decide) (by decide)).trans iM.out;simp[Act.eval] at k2' k5' k6';simp only[List.mem_cons,Qh,or_false] at hi;rcases hi with rfl | rfl | rfl | rfl | rfl | rfl | rfl | rfl | rfl | rfl | rfl | rfl | rfl | rfl | rfl
     all_goals first
      | (exfalso; simp at ar; done)
      | (cases ho
         try simp[Act.eval,Region.binds,mf,ki] at aR
         refine .inl ⟨by simp[Region.wanted],λw' hw'=>?_⟩;subst hw';simp[Oper.quietAt,Oper.quietUpon,execOp,go_sem,mf,k2',k5',k6',q1,f0,f3,f4,bW,bV,aR])
    ·intro f listed a' hH hr;obtain⟨_,o,ho,ax⟩:=mem_ready.1 hr
     cases ho
     have hG:=hH.good;have hval:=λi hi hl=>hG.val i hi hl;have bB:∀ k,({ on:=k,ground:=.data } : Edge)∈_->listed.getD k false=true:=λk hk=>ax _ hk rfl;have av0:=hval 0 (by simp) (bB 0 (by simp));have av14:=hval 14 (by simp) (bB 14 (by simp));simp[mf,ki] at av0 av14;simp only[wpOp];simp[Region.wanted];refine .inl ?_;have hs5:=ca.out.size;refine Dg (R:=il) (M:=M) W5 (.tmp 32) (.tmp 46) 32 rfl (X+1) 60 i0 (.agg #[.int .i64 0,.string ⟨#[]⟩,.slice none 0 0]) 48 underlying32 nj ea bI aN rfl (by decide) u5 ps av0 (HO.out.keep ig jj gT ca.out) (some ⟨wr.heap.size,0,none⟩) 1 [⟨x.host,x.zone⟩] av14 (yd rfl (BO.out W5 ca.out) cK.out) Me a4K.out EC.out (by omega) ig jj gT ?_;intro v6 w6 lW Sp Rn;have aW:Below (X+1) W5 w6:=(vQ _ _).grown Sp (by omega) (λg hg=>(HO.out.lt g hg).1);have q1:=(cl aW (by omega)).trans q1;have f0:=(cl aW (by omega)).trans f0;have f3:=(cl aW (by omega)).trans f3;have f4:=(cl aW (by omega)).trans f4;have H6:=jq (And.intro lW (And.intro aW Rn));clear lW Sp aW Rn hs5;refine fN (w:=w6) (D:=[0,1,2,3,4,5,6,7,8,9,10,11,12,13,14,15]) (A:=[15,14]) (p:=16) (dst:=ki) (val:=mf u5 X b o k n2 c2 x.host sn Az nz cz (.slice (some ⟨wr.heap.size,0,none⟩) 1 1) v6) (m:=49)
      (base:=dt a0 49 D7) (fM (by kernel_rfl)) (by simp) (by simp) (fD (by kernel_rfl)) ?_
      (λi hi=>(rH i (by simp at hi |-; omega)).1) (λi hi j hj=>Ae i (by simp at hi |-; omega) j (by simp at hj |-; omega)) (λi hi=>cx (rH i (by simp at hi |-; omega)).2) ?_ ?_ _ _ _ (hH.act (D':=[0,1,2,3,4,5,6,7,8,9,10,11,12,13,14,15]) (val':=mf u5 X b o k n2 c2 x.host sn Az nz cz (.slice (some ⟨wr.heap.size,0,none⟩) 1 1) v6) hr (by simp) (λi hi=>by simp at hi |-; omega) (λi hi=>by simp at hi; rcases hi with rfl | rfl | rfl | rfl | rfl | rfl | rfl | rfl | rfl | rfl | rfl | rfl | rfl | rfl | rfl <;> rfl) rfl (by simp[ki]) (λj hj=>Ae 15 (by simp) j (by simp at hj |-; omega) (by rintro rfl; simp at hj)) (cx (rH 15 (by simp)).2) (by simp))
     ·intro i hi ar;simp only[List.mem_cons,Qh,or_false] at hi;rcases hi with rfl | rfl | rfl | rfl | rfl | rfl | rfl | rfl | rfl | rfl | rfl | rfl | rfl | rfl | rfl | rfl
      all_goals first | (exfalso; simp at ar; done) | exact⟨_,rfl,rfl⟩
     ·intro i hi ar o ho a' hb aR;have k2':=(aT hb (j:=2) (by decide) (by decide)).trans oq.out;have k5':=(aT hb (j:=5) (by decide) (by decide)).trans mW.out;have k6':=(aT hb (j:=6) (by decide) (by decide)).trans iM.out;simp[Act.eval] at k2' k5' k6';simp only[List.mem_cons,Qh,or_false] at hi;rcases hi with rfl | rfl | rfl | rfl | rfl | rfl | rfl | rfl | rfl | rfl | rfl | rfl | rfl | rfl | rfl | rfl
      all_goals first
       | (exfalso; simp at ar; done)
       | (cases ho
          try simp[Act.eval,Region.binds,mf,ki] at aR
          refine .inl ⟨by simp[Region.wanted],λw' hw'=>?_⟩;subst hw';simp[Oper.quietAt,Oper.quietUpon,execOp,go_sem,mf,k2',k5',k6',q1,f0,f3,f4,bW,bV,aR])
     ·intro f listed a' hH hr;obtain⟨_,o,ho,ax⟩:=mem_ready.1 hr
      cases ho
      have hG:=hH.good;have hval:=λi hi hl=>hG.val i hi hl;have bB:∀ k,({ on:=k,ground:=.data } : Edge)∈_->listed.getD k false=true:=λk hk=>ax _ hk rfl;obtain⟨rfl,bY⟩:=hH.all hr (by kernel_rfl);have av15:=hval 15 (by simp) (bY 15 (by simp) (by simp));simp[Act.eval,mf,ki] at av15;have gE:=Held.frame (D:=[0,1,2,3,4,5,6,7,8,9,10,11,12,13,14,15]) (dst:=ki) (a0:=a0) (m:=49) hH HM.out (λi hi=>bY i (by simp at hi |-; omega) (by simp at hi; omega)) (λi hi=>(rH i (by simp at hi |-; omega)).1);simp only[wpOp];simp[Region.wanted];refine .inl ?_;simp[Oper.wp,execOp,go_sem,av15];refine⟨pz (λi hi=>?_) (by rw[Array.size_setIfInBounds]; exact hG.size),?_⟩
      ·by_cases hip:i=16
       ·subst hip;have hs:16<listed.size:=by rw[hG.size]; exact hi
        simp[Array.getD,hs]
       ·exact kL (bY i hi hip)
      ·rw[gE,jg.out];simp[jJ,Act.put,mf,ki];clear gE hval bB bY ax hG hH;clear q1 f0 f3 f4;go_wp2_with fail;go_roundw
       case rel=>exact⟨k+1,by omega,by go_num,by have:=ca.out.size; have:=H6.out.2.1.size; omega,jq (aO.out.trans ((ca.out.mono (by omega)).trans H6.out.2.1)),_,jq (by rw[fV.out]; exact H6.out.1),jq ⟨λg hg=>by
        rcases hg with hg | hg
        ·exact yZ.out.1 g hg
        ·rcases H6.out.2.2 with h | h
         ·have:=(HO.out.lt g (h ▸ hg)).1; omega
         ·rw[h] at hg; have:=ca.out.size; have e:W5.heap.size=g:=Option.some.inj hg; omega,λg h1 h2=>Or.inl (yZ.out.2 g h1 h2)⟩⟩
       case measure=>simp[intOf] <;> omega
  ·have fe:Hid (copies.take k=copies):=jq (kQ (by rw[er.out]; omega));go_wp2_with fail;go_ret;refine⟨_,rfl,?_,HB.out⟩;intro M' hM';have h9:=HO.out.slr_sans (M':=M') jj gT (λg hg=>⟨yZ.out.2 g (hM' g hg).1 (hM' g hg).2,λe=>by have:=(HO.out.lt g e).1; have:=(hM' g hg).2; omega⟩) (by have:=Gu (copies.take k) t; rw[List.length_take] at this; rw[List.length_map]; omega);rw[fe.out] at h9;exact h9
def qA(X:Nat)(A1:Option Addr)(n1 c1:Nat)(A2:Option Addr)(n2 c2:Nat)(s:ByteArray)(ty life:Int)(A3:Option Addr)(n3 c3:Nat)(A4:Option Addr)(n4 c4:Nat)(drift stop t:Int)(e4:Value)(i:Nat):Value:=[.pointer (some ⟨X,0,none⟩),.slice A1 n1 c1,.agg #[.slice A1 n1 c1,.slice A2 n2 c2,.string s,.int .i64 ty,.int .i64 life,.slice A3 n3 c3,.slice A4 n4 c4,.int .i64 drift,.int .i64 stop],.int .i64 t,e4,.pointer (some ⟨X,2,none⟩),.agg #[.string s,.int .i64 ty,.int .i64 life,.slice A3 n3 c3],.pointer (some ⟨X,6,none⟩),.slice A4 n4 c4,.agg #[.slice A1 n1 c1,e4,.string s,.int .i64 ty,.int .i64 life,.slice A3 n3 c3,.slice A4 n4 c4],undef].getD i undef
def mL(i:Nat):Nat:=[5,6,7,8,9,10,11,12,13,14,0].getD i 0
def D6:List Nat:=[0,1,2,3,5,6,7,8,9,4].map mL
theorem yi:∀ i∈[0,1,2,3,5,6,7,8,9,4],mL i<15/\mL i∈D6:=by decide
theorem GS:∀ i∈[0,1,2,3,5,6,7,8,9,4],∀ j∈[0,1,2,3,5,6,7,8,9,4],j≠i->mL i≠mL j:=by decide
def lw(W:World)(B:Nat)(e:List Value)(x:Np.WorldP):Prop:=∃ (hv zv:Value) (s:ByteArray) (dv cj:Value),e = [hv,zv,.string s,.int .i64 x.anchor.type,.int .i64 x.anchor.life,dv,cj]/\s.data.toList=x.anchor.name/\s.size<=140737488355328/\
 SlR gW 3 W B hv x.hosts/\SlR il 3 W B zv x.zones/\SlR cG 3 W B dv x.anchor.data/\SlR ip 1 W B cj x.hints
theorem zW:dK lw:=λ_ _ _ _ _ ⟨hv,cv,s,dv,cj,h0,h1,h2,h3,h4,h5,h6⟩ hb=>⟨hv,cv,s,dv,cj,h0,h1,h2,h3.keep fF hb,h4.keep ig hb,h5.keep cL hb,h6.keep iU hb⟩
theorem zV:dV lw:=λ_ _ _ _ _ ⟨hv,cv,s,dv,cj,h0,h1,h2,h3,h4,h5,h6⟩ hb=>⟨hv,cv,s,dv,cj,h0,h1,h2,h3.more jZ hb,h4.more gT hb,h5.more dp hb,h6.more nv hb⟩
theorem Di:fu lw:=λ_ _ _ _ _ _ hM ⟨hv,cv,s,dv,cj,h0,h1,h2,h3,h4,h5,h6⟩=>⟨hv,cv,s,dv,cj,h0,h1,h2,h3.sans We hM,h4.sans jj hM,h5.sans vd hM,h6.sans Xw hM⟩
theorem Xf(e:List Value)(h:Np.Hist)(h5:h.copies.length<=500)(t:Int)(w:World)(B:Nat)(hB:B<=w.heap.size)(hh:bw w B e h) :
 Calls prog 48 #[.agg e.toArray,.int .i64 t] w λe w'=>∃ e',e = .returned (.agg e'.toArray)/\AL lw B w.heap.size w' e' (Np.jo h t)/\Below w.heap.size w w':=by
 have gS:=jq hh;obtain⟨hv,cv,s,dv,cj,rfl,aZ,b7,h3,h4,h5',h6⟩:=hh;obtain⟨hosts,copies,⟨name,ty,life,data⟩,hints,drift,stop⟩:=h;dsimp only at aZ h3 h4 h5' h6 h5 |-;have cR:=jq h5;have H3:=jq h3;have H5:=jq h5';have H6:=jq h6;have HS:=jq (And.intro aZ b7);obtain⟨A1,c1,rfl,_,_⟩:=ag h3;obtain⟨A2,c2,rfl,_,_⟩:=ag h4;obtain⟨A3,c3,rfl,_,_⟩:=ag h5';obtain⟨A4,c4,rfl,_,_⟩:=ag h6;clear h3 h4 h5' h6 h5 aZ b7;obtain⟨n1,aJ⟩:∃ n,hosts.length=n:=⟨_,rfl⟩;obtain⟨n2,aK⟩:∃ n,copies.length=n:=⟨_,rfl⟩;obtain⟨n3,bk⟩:∃ n,data.length=n:=⟨_,rfl⟩;obtain⟨n4,bl⟩:∃ n,hints.length=n:=⟨_,rfl⟩;rw[aJ] at H3;rw[bk] at H5;rw[bl] at H6;rw[aJ,aK,bk,bl];rw[aJ,aK,bk,bl] at gS;clear aJ aK bk bl;obtain⟨X,hX⟩:∃ X,w.heap.size=X:=⟨_,rfl⟩;obtain⟨Y,hY⟩:∃ Y,X+1=Y:=⟨_,rfl⟩;obtain⟨W1,ae⟩:∃ W1,(w.alloc (.cells #[.slice A1 n1 c1,.slice A2 n2 c2,.string s,.int .i64 ty,.int .i64 life,.slice A3 n3 c3,.slice A4 n4 c4,.int .i64 drift,.int .i64 stop] 29)).alloc (.cells #[.slice none 0 0,.slice none 0 0,.string ⟨#[]⟩,.int .i64 0,.int .i64 0,.slice none 0 0,.slice none 0 0] 34)=W1:=⟨_,rfl⟩;have aw:Below w.heap.size w W1:=by rw[<-ae]; exact ((vQ _ _).alloc (bQ _) _).alloc (by simp) _
 have eG:W1.heap.size=X+2:=by rw[<-ae,<-hX]; simp
 have aYX:X<W1.heap.size:=by omega
 have aU:W1.heap[Y]?=some (.cells #[.slice none 0 0,.slice none 0 0,.string ⟨#[]⟩,.int .i64 0,.int .i64 0,.slice none 0 0,.slice none 0 0] 34):=by
  rw[<-ae,<-hY,<-hX]
  have:=heap_alloc_new (w.alloc (.cells #[.slice A1 n1 c1,.slice A2 n2 c2,.string s,.int .i64 ty,.int .i64 life,.slice A3 n3 c3,.slice A4 n4 c4,.int .i64 drift,.int .i64 stop] 29)) (.cells #[.slice none 0 0,.slice none 0 0,.string ⟨#[]⟩,.int .i64 0,.int .i64 0,.slice none 0 0,.slice none 0 0] 34)
  simpa using this
 have Kd:=jq aU;clear aU;have k0:W1.cell? ⟨X,0,none⟩=some (.slice A1 n1 c1):=by rw[<-ae,<-hX]; simp[go_sem]
 have k1:W1.cell? ⟨X,1,none⟩=some (.slice A2 n2 c2):=by rw[<-ae,<-hX]; simp[go_sem]
 have k2:W1.cell? ⟨X,2,none⟩=some (.string s):=by rw[<-ae,<-hX]; simp[go_sem]
 have k3:W1.cell? ⟨X,3,none⟩=some (.int .i64 ty):=by rw[<-ae,<-hX]; simp[go_sem]
 have k4:W1.cell? ⟨X,4,none⟩=some (.int .i64 life):=by rw[<-ae,<-hX]; simp[go_sem]
 have k5:W1.cell? ⟨X,5,none⟩=some (.slice A3 n3 c3):=by rw[<-ae,<-hX]; simp[go_sem]
 have k6:W1.cell? ⟨X,6,none⟩=some (.slice A4 n4 c4):=by rw[<-ae,<-hX]; simp[go_sem]
 have k7:W1.cell? ⟨X,7,none⟩=some (.int .i64 drift):=by rw[<-ae,<-hX]; simp[go_sem]
 have k8:W1.cell? ⟨X,8,none⟩=some (.int .i64 stop):=by rw[<-ae,<-hX]; simp[go_sem]
 rw[hX] at aw hB |-;have ay:=jq aw;have IB:Hid (∀ W5,Below W1.heap.size W1 W5->bw W5 B [.slice A1 n1 c1,.slice A2 n2 c2,.string s,.int .i64 ty,.int .i64 life,.slice A3 n3 c3,.slice A4 n4 c4,.int .i64 drift,.int .i64 stop] ⟨hosts,copies,⟨name,ty,life,data⟩,hints,drift,stop⟩):=jq (λW5 hb=>cE _ _ _ _ _ gS.out ((ay.out.trans (hb.mono (by omega))).mono hB));clear aw;go_enter func48,ntmps48;go_wp2_with fail;clear ae hX;refine AF λa0 bi=>?_;have jg:=jq bi;have Se:=jq (show a0.eval (.tmp 1) = .int .i64 t by rw[bi]; rfl);have oq:=jq (show a0.eval (.tmp 2) = .pointer (some ⟨X,0,none⟩) by rw[bi]; rfl);have HA4:=jq (show a0.eval (.tmp 4) = .pointer (some ⟨Y,0,none⟩) by rw[bi]; rfl);have HM:=jq (show a0.tmps.size=15 by rw[bi]; rfl);clear bi;refine wp_region_any (by kernel_rfl) ?_;refine fN (w:=W1.drew) (D:=[0,1,2,3,5,6,7,8]) (A:=[]) (p:=4) (dst:=mL) (val:=qA X A1 n1 c1 A2 n2 c2 s ty life A3 n3 c3 A4 n4 c4 drift stop t undef) (m:=15)
  (base:=dt a0 15 D6) (fM (by kernel_rfl)) (by simp) (by simp) (fD (by kernel_rfl)) ?_
  (λi hi=>(yi i (by simp at hi |-; omega)).1) (λi hi j hj=>GS i (by simp at hi |-; omega) j (by simp at hj |-; omega)) (λi hi=>cx (yi i (by simp at hi |-; omega)).2) ?_ ?_ _ _ _ (Held.start (λq hq=>pw q hq) HM.out)
 ·intro i hi ar;simp only[List.mem_cons,Qh,or_false] at hi;rcases hi with rfl | rfl | rfl | rfl | rfl | rfl | rfl | rfl
  all_goals first | (exfalso; simp at ar; done) | exact⟨_,rfl,rfl⟩
 ·intro i hi ar o ho a' hb aR;have k1':=(aT hb (j:=1) (by decide) (by decide)).trans Se.out;have k2':=(aT hb (j:=2) (by decide) (by decide)).trans oq.out;simp[Act.eval] at k1' k2';simp only[List.mem_cons,Qh,or_false] at hi;rcases hi with rfl | rfl | rfl | rfl | rfl | rfl | rfl | rfl
  all_goals first
   | (exfalso; simp at ar; done)
   | (cases ho
      try simp[Act.eval,Region.binds,qA,mL] at aR
      refine .inl ⟨by simp[Region.wanted],λw' hw'=>?_⟩;subst hw';simp[Oper.quietAt,Oper.quietUpon,execOp,go_sem,qA,k1',k2',k0,k1,k2,k3,k4,k5,k6,k7,k8,aR])
 ·intro f listed a' hH hr;obtain⟨_,o,ho,ax⟩:=mem_ready.1 hr
  cases ho
  have hG:=hH.good;have hval:=λi hi hl=>hG.val i hi hl;have bB:∀ k,({ on:=k,ground:=.data } : Edge)∈_->listed.getD k false=true:=λk hk=>ax _ hk rfl;have av2:=hval 2 (by simp) (bB 2 (by simp));have av3:=hval 3 (by simp) (bB 3 (by simp));simp[Act.eval,qA,mL] at av2 av3;simp only[wpOp];simp[Region.wanted];refine .inl ?_;simp[Oper.wp,go_sem,av2,av3];refine (Wc _ _ cR.out t W1.drew B (by show B<=W1.heap.size; omega) (IB.out _ ((vQ _ _).drew))).mono ?_;rintro e w5 ⟨v5,rfl,h5,aA⟩;have aY:Below W1.heap.size W1 w5:=(vQ W1.heap.size W1).drew.trans aA;have k0:=(cl aY (by omega)).trans k0;have k1:=(cl aY (by omega)).trans k1;have k2:=(cl aY (by omega)).trans k2;have k3:=(cl aY (by omega)).trans k3;have k4:=(cl aY (by omega)).trans k4;have k5:=(cl aY (by omega)).trans k5;have k6:=(cl aY (by omega)).trans k6;have k7:=(cl aY (by omega)).trans k7;have k8:=(cl aY (by omega)).trans k8;have aU:=(aY.block Y (by omega)).trans Kd.out;have RQ:Hid (fP il 3 B W1.heap.size w5 v5 ((Np.bS copies t).map Np.eV)):=jq h5;obtain⟨A5,c5,rfl,_,_⟩:=ag (h5.all jj);obtain⟨n5,yU⟩:∃ n,((Np.bS copies t).map Np.eV).length=n:=⟨_,rfl⟩;rw[yU] at RQ |-;have dI:=jq aY;have gZ:=jq aU;clear h5 aA aY yU aU;dsimp only;refine fN (w:=w5) (D:=[0,1,2,3,5,6,7,8,9,4]) (A:=[4]) (p:=10) (dst:=mL) (val:=qA X A1 n1 c1 A2 n2 c2 s ty life A3 n3 c3 A4 n4 c4 drift stop t (.slice A5 n5 c5)) (m:=15)
   (base:=dt a0 15 D6) (fM (by kernel_rfl)) (by simp) (by simp) (fD (by kernel_rfl)) ?_
   (λi hi=>(yi i (by simp at hi |-; omega)).1) (λi hi j hj=>GS i (by simp at hi |-; omega) j (by simp at hj |-; omega)) (λi hi=>cx (yi i (by simp at hi |-; omega)).2) ?_ ?_ _ _ _ (hH.act (D':=[0,1,2,3,5,6,7,8,9,4]) (val':=qA X A1 n1 c1 A2 n2 c2 s ty life A3 n3 c3 A4 n4 c4 drift stop t (.slice A5 n5 c5)) hr (by simp) (λi hi=>by simp at hi |-; omega) (λi hi=>by simp at hi; rcases hi with rfl | rfl | rfl | rfl | rfl | rfl | rfl | rfl <;> rfl) rfl (by simp[mL]) (λj hj=>GS 4 (by simp) j (by simp at hj |-; omega) (by rintro rfl; simp at hj)) (cx (yi 4 (by simp)).2) (by simp))
  ·intro i hi ar;simp only[List.mem_cons,Qh,or_false] at hi;rcases hi with rfl | rfl | rfl | rfl | rfl | rfl | rfl | rfl | rfl | rfl
   all_goals first | (exfalso; simp at ar; done) | exact⟨_,rfl,rfl⟩
  ·intro i hi ar o ho a' hb aR;have k1':=(aT hb (j:=1) (by decide) (by decide)).trans Se.out;have k2':=(aT hb (j:=2) (by decide) (by decide)).trans oq.out;simp[Act.eval] at k1' k2';simp only[List.mem_cons,Qh,or_false] at hi;rcases hi with rfl | rfl | rfl | rfl | rfl | rfl | rfl | rfl | rfl | rfl
   all_goals first
    | (exfalso; simp at ar; done)
    | (cases ho
       try simp[Act.eval,Region.binds,qA,mL] at aR
       refine .inl ⟨by simp[Region.wanted],λw' hw'=>?_⟩;subst hw';simp[Oper.quietAt,Oper.quietUpon,execOp,go_sem,qA,k1',k2',k0,k1,k2,k3,k4,k5,k6,k7,k8,aR])
  ·intro f listed a' hH hr;obtain⟨_,o,ho,ax⟩:=mem_ready.1 hr
   cases ho
   have hG:=hH.good;have hval:=λi hi hl=>hG.val i hi hl;have bB:∀ k,({ on:=k,ground:=.data } : Edge)∈_->listed.getD k false=true:=λk hk=>ax _ hk rfl;obtain⟨rfl,bY⟩:=hH.all hr (by kernel_rfl);have av9:=hval 9 (by simp) (bY 9 (by simp) (by simp));simp[Act.eval,qA,mL] at av9;have gE:=Held.frame (D:=[0,1,2,3,5,6,7,8,9,4]) (dst:=mL) (a0:=a0) (m:=15) hH HM.out (λi hi=>bY i (by simp at hi |-; omega) (by simp at hi; omega)) (λi hi=>(yi i (by simp at hi |-; omega)).1);simp only[wpOp];simp[Region.wanted];refine .inl ?_;have y0:w5.cell? ⟨Y,0,none⟩=some (.slice none 0 0):=by simp[World.cell?,gZ.out]
   have z0:w5.frozen? ⟨Y,0,none⟩=false:=by simp[World.frozen?,gZ.out]
   have y1:w5.cell? ⟨Y,1,none⟩=some (.slice none 0 0):=by simp[World.cell?,gZ.out]
   have z1:w5.frozen? ⟨Y,1,none⟩=false:=by simp[World.frozen?,gZ.out]
   have y2:w5.cell? ⟨Y,2,none⟩=some (.string ⟨#[]⟩):=by simp[World.cell?,gZ.out]
   have z2:w5.frozen? ⟨Y,2,none⟩=false:=by simp[World.frozen?,gZ.out]
   have y3:w5.cell? ⟨Y,3,none⟩=some (.int .i64 0):=by simp[World.cell?,gZ.out]
   have z3:w5.frozen? ⟨Y,3,none⟩=false:=by simp[World.frozen?,gZ.out]
   have y4:w5.cell? ⟨Y,4,none⟩=some (.int .i64 0):=by simp[World.cell?,gZ.out]
   have z4:w5.frozen? ⟨Y,4,none⟩=false:=by simp[World.frozen?,gZ.out]
   have y5:w5.cell? ⟨Y,5,none⟩=some (.slice none 0 0):=by simp[World.cell?,gZ.out]
   have z5:w5.frozen? ⟨Y,5,none⟩=false:=by simp[World.frozen?,gZ.out]
   have y6:w5.cell? ⟨Y,6,none⟩=some (.slice none 0 0):=by simp[World.cell?,gZ.out]
   have z6:w5.frozen? ⟨Y,6,none⟩=false:=by simp[World.frozen?,gZ.out]
   have Bo:=(aT (a:=a') (ds:=D6) hH.good.base (j:=4) (by decide) (by decide)).trans HA4.out;simp[Act.eval] at Bo;simp[Oper.wp,execOp,go_sem,av9,Bo,y0,z0,y1,z1,y2,z2,y3,z3,y4,z4,y5,z5,y6,z6];refine⟨pz (λi hi=>?_) (by rw[Array.size_setIfInBounds]; exact hG.size),?_⟩
   ·by_cases hip:i=10
    ·subst hip;have hs:10<listed.size:=by rw[hG.size]; exact hi
     simp[Array.getD,hs]
    ·exact kL (bY i hi hip)
   ·rw[gE,jg.out];simp[jJ,Act.put,qA,mL];clear gE hval bB bY ax hG hH;go_wp2_with fail;obtain⟨W,hW⟩:∃ W,(((((((w5.setCell ⟨Y,0,none⟩ (.slice A1 n1 c1)).setCell ⟨Y,1,none⟩ (.slice A5 n5 c5)).setCell ⟨Y,2,none⟩ (.string s)).setCell ⟨Y,3,none⟩ (.int .i64 ty)).setCell ⟨Y,4,none⟩ (.int .i64 life)).setCell ⟨Y,5,none⟩ (.slice A3 n3 c3)).setCell ⟨Y,6,none⟩ (.slice A4 n4 c4))=W:=⟨_,rfl⟩;have HLV:Hid (∀ M:Nat->Prop,M Y->Leaves' M w5 W M):=jq (λM hY'=>by rw[<-hW]; exact ((((((((Leaves'.setCell M _ (p:=⟨Y,0,none⟩) hY' _).trans (Leaves'.setCell M _ (p:=⟨Y,1,none⟩) hY' _)).trans (Leaves'.setCell M _ (p:=⟨Y,2,none⟩) hY' _)).trans (Leaves'.setCell M _ (p:=⟨Y,3,none⟩) hY' _)).trans (Leaves'.setCell M _ (p:=⟨Y,4,none⟩) hY' _)).trans (Leaves'.setCell M _ (p:=⟨Y,5,none⟩) hY' _)).trans (Leaves'.setCell M _ (p:=⟨Y,6,none⟩) hY' _))));have QH:Hid (Below (X+1) w5 W):=jq (by rw[<-hW]; exact (((((((vQ _ _).setCell (by dsimp only; omega) _).setCell (by dsimp only; omega) _).setCell (by dsimp only; omega) _).setCell (by dsimp only; omega) _).setCell (by dsimp only; omega) _).setCell (by dsimp only; omega) _).setCell (by dsimp only; omega) _);have ph:W.heap.size=w5.heap.size:=by rw[<-hW]; simp
    have e0:W.cell? ⟨Y,0,none⟩=some (.slice A1 n1 c1):=by rw[<-hW]; simp[go_sem,y0]
    have e1:W.cell? ⟨Y,1,none⟩=some (.slice A5 n5 c5):=by rw[<-hW]; simp[go_sem,y1]
    have e2:W.cell? ⟨Y,2,none⟩=some (.string s):=by rw[<-hW]; simp[go_sem,y2]
    have e3:W.cell? ⟨Y,3,none⟩=some (.int .i64 ty):=by rw[<-hW]; simp[go_sem,y3]
    have e4:W.cell? ⟨Y,4,none⟩=some (.int .i64 life):=by rw[<-hW]; simp[go_sem,y4]
    have e5:W.cell? ⟨Y,5,none⟩=some (.slice A3 n3 c3):=by rw[<-hW]; simp[go_sem,y5]
    have e6:W.cell? ⟨Y,6,none⟩=some (.slice A4 n4 c4):=by rw[<-hW]; simp[go_sem,y6]
    rw[hW];refine bodyPost_ret (v:=.agg #[.slice A1 n1 c1,.slice A5 n5 c5,.string s,.int .i64 ty,.int .i64 life,.slice A3 n3 c3,.slice A4 n4 c4]) ?_ rfl ⟨[.slice A1 n1 c1,.slice A5 n5 c5,.string s,.int .i64 ty,.int .i64 life,.slice A3 n3 c3,.slice A4 n4 c4],rfl,?_,?_⟩
    ·simp[results,results48,go_sem,e0,e1,e2,e3,e4,e5,e6]
    ·have hb:Below X w W:=ay.out.trans ((dI.out.mono (by omega)).trans (QH.out.mono (by omega)));have kZ:=hb.size;intro M hM;have bkZ:W1.heap.size<=w5.heap.size:=dI.out.size;have h9:=RQ.out (λk=>M k\/k=Y) (λk hk=>by rcases hk with hk | rfl; have:=hM k hk; omega; omega);have mS:=((HLV.out (λk=>M k\/k=Y) (.inr rfl)).slr ig jj gT h9).sans (M':=M) jj (λk hk=>.inl hk);have hs:Below B w (bp W M):=(hb.mono hB).trans (NC (λk hk=>(hM k hk).1));exact⟨_,_,s,_,_,rfl,HS.out.1,HS.out.2,(H3.out.keep fF hs).more jZ (by omega),mS,(H5.out.keep cL hs).more dp (by omega),(H6.out.keep iU hs).more nv (by omega)⟩
    ·exact ay.out.trans ((dI.out.mono (by omega)).trans (QH.out.mono (by omega)))
end
end Go.Proofs.YtbfbobfbgabjiaaGreatDoor
